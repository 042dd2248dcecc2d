/- Contracts of functions of the seat's program: each Go function's Lean function and its walk, written by a program of this session over the kit's print. Not trusted: Lean checks it. -/
import Derived.Test.YtoncignjcgjhhaaZGA
import Derived.Test.YtoncignjcgjhhaaZGK
import Derived.Test.YtoncignjcgjhhaaZGL
import Derived.Test.YtoncignjcgjhhaaZGM
import Derived.Test.YtoncignjcgjhhaaZV
set_option linter.unusedVariables false
set_option linter.unusedSimpArgs false
namespace Go.Proofs.Ytoncignjcgjhhaa.Q
open Go.RowKit Go.Proofs.YtoncignjcgjhhaaW.PrintWords Go.Proofs.YtoncignjcgjhhaaW.PrintLast Go.Proofs.YtoncignjcgjhhaaW.PrintMore
attribute [local go_sem] max2_int min2_int max_two min_two max_three min_three max_four min_four   -- for this text's walks alone
set_option linter.unusedVariables false
set_option linter.unusedSimpArgs false

/-! ### tenorlaw6_CalOpen: function 12 -/
mutual
def tenorlaw6_CalOpen.j0 : Nat → Int → Int → Bool → Bool → Int → List (S63) → Option (Bool)
  | 0, _, _, _, _, _, _ => none
  | k + 1, x1, x2, x7, x36, x566000, x566001 => if x36 = true then ((tenorlaw6_awake.f).bind fun t569 => (some t569)) else ((cal_Adjust.f x566000 x566001 x1 x2).bind fun bt570 => (if bt570.2 = 0 then (if x7 = true then (tenorlaw6_CalOpen.j1 k x1 x2 bt570.1 true x566000 x566001) else (tenorlaw6_CalOpen.j1 k x1 x2 bt570.1 (x2 == 0) x566000 x566001)) else (if bt570.2 = 51 then (if x7 = true then (some false) else (if x2 = 0 then (some false) else ((tenorlaw6_awake.f).bind fun t572 => (some t572)))) else (some false))))
def tenorlaw6_CalOpen.j1 : Nat → Int → Int → Int → Bool → Int → List (S63) → Option (Bool)
  | 0, _, _, _, _, _, _ => none
  | k + 1, x1, x2, x9, x64, x566000, x566001 => if x64 = true then (if x9 = x1 then ((tenorlaw6_awake.f).bind fun t573 => (some t573)) else (some false)) else ((cal_Open.f x566000 x566001 x9).bind fun bt574 => (if bt574.2 = 0 then (tenorlaw6_CalOpen.j2 k x1 x2 x9 (!bt574.1) x566000 x566001) else (tenorlaw6_CalOpen.j2 k x1 x2 x9 true x566000 x566001)))
def tenorlaw6_CalOpen.j2 : Nat → Int → Int → Int → Bool → Int → List (S63) → Option (Bool)
  | 0, _, _, _, _, _, _ => none
  | k + 1, x1, x2, x9, x82, x566000, x566001 => if x82 = true then (some false) else (tenorlaw6_CalOpen.l0 k x1 x2 x9 (wrap64 ((mn x1 x9) + 1)) x566000 x566001)
def tenorlaw6_CalOpen.l0 : Nat → Int → Int → Int → Int → Int → List (S63) → Option (Bool)
  | 0, _, _, _, _, _, _ => none
  | k + 1, x1, x2, x9, x13, x566000, x566001 => if x13 < (mx x1 x9) then ((cal_Open.f x566000 x566001 x13).bind fun bt576 => (if bt576.2 = 0 then (if bt576.1 = true then (some false) else (tenorlaw6_CalOpen.l0 k x1 x2 x9 (wrap64 (x13 + 1)) x566000 x566001)) else (some false))) else (if x2 = 1 then (if x9 > x1 then ((tenorlaw6_awake.f).bind fun t578 => (some t578)) else (some false)) else (if x2 = 2 then (if x9 < x1 then ((tenorlaw6_awake.f).bind fun t579 => (some t579)) else (some false)) else ((tenorlaw6_awake.f).bind fun t580 => (some t580))))
end
def tenorlaw6_CalOpen.f (k : Nat) (a0_0 : Int) (l0_1 : List (S63)) (a1 : Int) (a2 : Int) : Option (Bool) := (cal_Open.f a0_0 l0_1 a1).bind fun bt566 => ((tenorlaw6_Few.f a0_0 l0_1).bind fun t568 => (if t568 = true then (if bt566.2 = 0 then (if a2 < 0 then (tenorlaw6_CalOpen.j0 k a1 a2 bt566.1 true a0_0 l0_1) else (tenorlaw6_CalOpen.j0 k a1 a2 bt566.1 (decide (a2 > 4)) a0_0 l0_1)) else (tenorlaw6_CalOpen.j0 k a1 a2 bt566.1 true a0_0 l0_1)) else (tenorlaw6_CalOpen.j0 k a1 a2 bt566.1 true a0_0 l0_1)))
theorem tenorlaw6_CalOpen.mono_l : ∀ k, (∀ y0 y1 y2 y3 y4 y5, LeO (tenorlaw6_CalOpen.j0 k y0 y1 y2 y3 y4 y5) (tenorlaw6_CalOpen.j0 (k + 1) y0 y1 y2 y3 y4 y5)) ∧ (∀ y0 y1 y2 y3 y4 y5, LeO (tenorlaw6_CalOpen.j1 k y0 y1 y2 y3 y4 y5) (tenorlaw6_CalOpen.j1 (k + 1) y0 y1 y2 y3 y4 y5)) ∧ (∀ y0 y1 y2 y3 y4 y5, LeO (tenorlaw6_CalOpen.j2 k y0 y1 y2 y3 y4 y5) (tenorlaw6_CalOpen.j2 (k + 1) y0 y1 y2 y3 y4 y5)) ∧ (∀ y0 y1 y2 y3 y4 y5, LeO (tenorlaw6_CalOpen.l0 k y0 y1 y2 y3 y4 y5) (tenorlaw6_CalOpen.l0 (k + 1) y0 y1 y2 y3 y4 y5))
  | 0 => ⟨fun _ _ _ _ _ _ r h => by simp [tenorlaw6_CalOpen.j0] at h, fun _ _ _ _ _ _ r h => by simp [tenorlaw6_CalOpen.j1] at h, fun _ _ _ _ _ _ r h => by simp [tenorlaw6_CalOpen.j2] at h, fun _ _ _ _ _ _ r h => by simp [tenorlaw6_CalOpen.l0] at h⟩
  | k + 1 => by
    obtain ⟨ih0, ih1, ih2, ih3⟩ := tenorlaw6_CalOpen.mono_l k
    refine ⟨?_, ?_, ?_, ?_⟩
    · intro y0 y1 y2 y3 y4 y5
      unfold tenorlaw6_CalOpen.j0
      repeat' first
      | (with_reducible exact ih0 _ _ _ _ _ _)
      | (with_reducible exact ih1 _ _ _ _ _ _)
      | (with_reducible exact ih2 _ _ _ _ _ _)
      | (with_reducible exact ih3 _ _ _ _ _ _)
      | (with_reducible exact LeO.refl _)
      | (with_reducible exact LeO.none _)
      | (with_reducible refine LeO.ite ?_ ?_)
      | (with_reducible refine LeO.bind ?_ (fun _ => ?_))
      | exact ih0 _ _ _ _ _ _
      | exact ih1 _ _ _ _ _ _
      | exact ih2 _ _ _ _ _ _
      | exact ih3 _ _ _ _ _ _
      | exact LeO.none _
      | refine LeO.ite ?_ ?_
      | refine LeO.bind ?_ (fun _ => ?_)
    · intro y0 y1 y2 y3 y4 y5
      unfold tenorlaw6_CalOpen.j1
      repeat' first
      | (with_reducible exact ih0 _ _ _ _ _ _)
      | (with_reducible exact ih1 _ _ _ _ _ _)
      | (with_reducible exact ih2 _ _ _ _ _ _)
      | (with_reducible exact ih3 _ _ _ _ _ _)
      | (with_reducible exact LeO.refl _)
      | (with_reducible exact LeO.none _)
      | (with_reducible refine LeO.ite ?_ ?_)
      | (with_reducible refine LeO.bind ?_ (fun _ => ?_))
      | exact ih0 _ _ _ _ _ _
      | exact ih1 _ _ _ _ _ _
      | exact ih2 _ _ _ _ _ _
      | exact ih3 _ _ _ _ _ _
      | exact LeO.none _
      | refine LeO.ite ?_ ?_
      | refine LeO.bind ?_ (fun _ => ?_)
    · intro y0 y1 y2 y3 y4 y5
      unfold tenorlaw6_CalOpen.j2
      repeat' first
      | (with_reducible exact ih0 _ _ _ _ _ _)
      | (with_reducible exact ih1 _ _ _ _ _ _)
      | (with_reducible exact ih2 _ _ _ _ _ _)
      | (with_reducible exact ih3 _ _ _ _ _ _)
      | (with_reducible exact LeO.refl _)
      | (with_reducible exact LeO.none _)
      | (with_reducible refine LeO.ite ?_ ?_)
      | (with_reducible refine LeO.bind ?_ (fun _ => ?_))
      | exact ih0 _ _ _ _ _ _
      | exact ih1 _ _ _ _ _ _
      | exact ih2 _ _ _ _ _ _
      | exact ih3 _ _ _ _ _ _
      | exact LeO.none _
      | refine LeO.ite ?_ ?_
      | refine LeO.bind ?_ (fun _ => ?_)
    · intro y0 y1 y2 y3 y4 y5
      unfold tenorlaw6_CalOpen.l0
      repeat' first
      | (with_reducible exact ih0 _ _ _ _ _ _)
      | (with_reducible exact ih1 _ _ _ _ _ _)
      | (with_reducible exact ih2 _ _ _ _ _ _)
      | (with_reducible exact ih3 _ _ _ _ _ _)
      | (with_reducible exact LeO.refl _)
      | (with_reducible exact LeO.none _)
      | (with_reducible refine LeO.ite ?_ ?_)
      | (with_reducible refine LeO.bind ?_ (fun _ => ?_))
      | exact ih0 _ _ _ _ _ _
      | exact ih1 _ _ _ _ _ _
      | exact ih2 _ _ _ _ _ _
      | exact ih3 _ _ _ _ _ _
      | exact LeO.none _
      | refine LeO.ite ?_ ?_
      | refine LeO.bind ?_ (fun _ => ?_)
theorem tenorlaw6_CalOpen.mono : ∀ a0 a1 a2 a3 k, LeO (tenorlaw6_CalOpen.f k a0 a1 a2 a3) (tenorlaw6_CalOpen.f (k + 1) a0 a1 a2 a3) := by
  intro a0 a1 a2 a3 k
  obtain ⟨ih0, ih1, ih2, ih3⟩ := tenorlaw6_CalOpen.mono_l k
  unfold tenorlaw6_CalOpen.f
  repeat' first
      | (with_reducible exact ih0 _ _ _ _ _ _)
      | (with_reducible exact ih1 _ _ _ _ _ _)
      | (with_reducible exact ih2 _ _ _ _ _ _)
      | (with_reducible exact ih3 _ _ _ _ _ _)
      | (with_reducible exact LeO.refl _)
      | (with_reducible exact LeO.none _)
      | (with_reducible refine LeO.ite ?_ ?_)
      | (with_reducible refine LeO.bind ?_ (fun _ => ?_))
      | exact ih0 _ _ _ _ _ _
      | exact ih1 _ _ _ _ _ _
      | exact ih2 _ _ _ _ _ _
      | exact ih3 _ _ _ _ _ _
      | exact LeO.none _
      | refine LeO.ite ?_ ?_
      | refine LeO.bind ?_ (fun _ => ?_)
set_option maxHeartbeats 8000000 in
set_option maxRecDepth 100000 in
theorem tenorlaw6_CalOpen.calls (k : Nat) (a0_0 : Int) (A0_1 : Option Addr) (c0_1 : Nat) (l0_1 : List (S63)) (a1 : Int) (a2 : Int) (r : Bool) (w : World) (hr0_1 : Kd.C k63 w A0_1 l0_1.length l0_1) (hc0_1 : l0_1.length ≤ c0_1) (h : tenorlaw6_CalOpen.f k a0_0 l0_1 a1 a2 = some r) (HT : r = true) :
    Calls Try.prog 12 #[.agg #[.int .i64 a0_0, .slice A0_1 l0_1.length c0_1], .int .i64 a1, .int .i64 a2] w fun e w' => e = .returned (.bool r) ∧ Below w.heap.size w w' := by
  have hu24 := Try.underlying24
  have HR0_1 := Aside0.mk hr0_1
  have HC0_1 := Aside0.mk hc0_1
  clear hr0_1 hc0_1
  have HB := Aside0.mk (Below.refl w.heap.size w)
  have H : ((cal_Open.f a0_0 l0_1 a1).bind fun bt566 => ((tenorlaw6_Few.f a0_0 l0_1).bind fun t568 => (if t568 = true then (if bt566.2 = 0 then (if a2 < 0 then (tenorlaw6_CalOpen.j0 k a1 a2 bt566.1 true a0_0 l0_1) else (tenorlaw6_CalOpen.j0 k a1 a2 bt566.1 (decide (a2 > 4)) a0_0 l0_1)) else (tenorlaw6_CalOpen.j0 k a1 a2 bt566.1 true a0_0 l0_1)) else (tenorlaw6_CalOpen.j0 k a1 a2 bt566.1 true a0_0 l0_1)))) = some r := h
  clear h
  replace H := Option.bind_eq_some_iff.mp H
  obtain ⟨⟨t566, t567⟩, A40, H⟩ := H
  replace H : ((tenorlaw6_Few.f a0_0 l0_1).bind fun t568 => (if t568 = true then (if t567 = 0 then (if a2 < 0 then (tenorlaw6_CalOpen.j0 k a1 a2 t566 true a0_0 l0_1) else (tenorlaw6_CalOpen.j0 k a1 a2 t566 (decide (a2 > 4)) a0_0 l0_1)) else (tenorlaw6_CalOpen.j0 k a1 a2 t566 true a0_0 l0_1)) else (tenorlaw6_CalOpen.j0 k a1 a2 t566 true a0_0 l0_1))) = some r := H
  have A4 := Aside0.mk A40
  clear A40
  have HC5 := Aside0.mk H
  clear H
  go_enter Try.func12, Try.ntmps12
  go_upto_region 2 with (first | ((with_reducible refine gate_dst (N := 3) rfl ?_); refine box_event ?hg (N := 3) ?hd (cs := #[.int .i64 a0_0, .slice A0_1 l0_1.length c0_1]) (t := 24) ?hr ?_; (case hd => rfl); (case hg => rfl); (case hr => first | (go_simp; done) | (go_simp; rfl)); intro gb565 hg w6 hbox hb; have n0_ := Aside0.mk (below_step (by repeat (first | (with_reducible first | exact HB.out | apply below_alloc | apply pw_below_drewN | apply below_drew1) | exact HB.out)) hb); have n1_ := Aside0.mk (hbox); have n2_ := Aside0.mk ((by rw [hg]; exact (below_size (by repeat (first | (with_reducible first | exact HB.out | apply below_alloc | apply pw_below_drewN | apply below_drew1) | exact HB.out))) : w.heap.size ≤ gb565)); have n3_ := Aside0.mk ((by rw [hg]; exact (below_size (by repeat (first | (with_reducible first | exact HB.out | apply below_alloc | apply pw_below_drewN | apply below_drew1) | exact HB.out))) : w.heap.size ≤ gb565)); clear HB; have HB := n0_; have BK565 := n1_; have GW565 := n2_; have GE565 := n3_; clear n0_ n1_ n2_ n3_; clear hb hbox hg; have hcz7_0 : w6.cell? ⟨gb565, 0, none⟩ = some (.int .i64 a0_0) := (blk_cell BK565.out 0).trans rfl; have hcz7_1 : w6.cell? ⟨gb565, 1, none⟩ = some (.slice A0_1 l0_1.length c0_1) := (blk_cell BK565.out 1).trans rfl; have hfz7_0 := blk_frozen BK565.out 0; have hfz7_1 := blk_frozen BK565.out 1) | ((with_reducible refine gate_callee (f := 33) rfl ?_); refine goesL_ (some 19) rfl rfl Try.func33 (by kernel_rfl) rfl #[.agg #[.int .i64 a0_0, .slice A0_1 l0_1.length c0_1], .int .i64 a1] rfl (by (try simp only [List.map_toArray, List.map_cons, List.map_nil]); first | done | rfl | (simp only [List.length_drop, List.length_take]; rfl)) ?_; (with_reducible refine (cal_Open.calls a0_0 _ _ l0_1 a1 t566 t567 _ ?side1 ?side2 A4.out).mono ?_); (case side1 => repeat (first | exact (Kd.C_below HR0_1.out HB.out) | (with_reducible refine Kd.C_alloc ?_ _) | (with_reducible refine Kd.C_drewN ?_ _) | (with_reducible refine Kd.C_drew ?_))); (case side2 => exact HC0_1.out); rintro e w8 ⟨rfl, hb⟩; refine ⟨_, rfl, ?_⟩; have n0_ := Aside0.mk (blk_below (g := gb565) (o := .cells #[.int .i64 a0_0, .slice A0_1 l0_1.length c0_1] 24 (0, 0)) (by (with_reducible repeat (first | refine blk_drewN ?_ _ | refine blk_drew ?_ | refine blk_alloc ?_ _)); exact BK565.out) hb); have n1_ := Aside0.mk (below_step (by repeat (first | (with_reducible first | exact HB.out | apply below_alloc | apply pw_below_drewN | apply below_drew1 | refine below_set ?_ GE565.out) | exact HB.out)) hb); clear BK565; clear HB; have BK565 := n0_; have HB := n1_; clear n0_ n1_; (try clear hb); (try clear hb2); (try clear hk); (try clear hi)))
  (try simp only [Act.put, List.setIfInBounds_toArray, List.set_cons_zero, List.set_cons_succ])
  go_cut [36] (fun v36 wc => ∃ (kq : Nat) (x36_4 : Bool), v36 = .bool x36_4 ∧ Aside0 (tenorlaw6_CalOpen.j0 kq a1 a2 t566 x36_4 a0_0 l0_1 = some r) ∧ Aside0 (kq ≤ k) ∧ Aside0 (wc.heap[gb565]? = some (.cells #[.int .i64 a0_0, (.slice A0_1 l0_1.length c0_1)] 24 (0, 0))) ∧ Aside0 (Below w.heap.size w wc))
  case first =>
    have H := HC5.out
    clear HC5
    replace H := Option.bind_eq_some_iff.mp H
    obtain ⟨t568, A90, H⟩ := H
    replace H : (if t568 = true then (if t567 = 0 then (if a2 < 0 then (tenorlaw6_CalOpen.j0 k a1 a2 t566 true a0_0 l0_1) else (tenorlaw6_CalOpen.j0 k a1 a2 t566 (decide (a2 > 4)) a0_0 l0_1)) else (tenorlaw6_CalOpen.j0 k a1 a2 t566 true a0_0 l0_1)) else (tenorlaw6_CalOpen.j0 k a1 a2 t566 true a0_0 l0_1)) = some r := H
    have A9 := Aside0.mk A90
    clear A90
    by_cases c10 : t568 = true
    · subst c10
      have H1 : (if t567 = 0 then (if a2 < 0 then (tenorlaw6_CalOpen.j0 k a1 a2 t566 true a0_0 l0_1) else (tenorlaw6_CalOpen.j0 k a1 a2 t566 (decide (a2 > 4)) a0_0 l0_1)) else (tenorlaw6_CalOpen.j0 k a1 a2 t566 true a0_0 l0_1)) = some r := by rw [if_pos rfl] at H; exact H
      clear H
      have H := H1
      clear H1
      by_cases c11 : t567 = 0
      · rw [if_pos c11] at H
        have c11b0 : (t567 == 0) = true := beq_iff_eq.mpr c11
        have c11b1 : (t567 != 0) = false := bne_eq_false_iff_eq.mpr c11
        clear c11
        (first | rw [c11b0] | (simp only [i64_w, i32_w]; rw [c11b0]) | skip)
        by_cases c12 : a2 < 0
        · rw [if_pos c12] at H
          have c12b0 : decide (a2 < 0) = true := decide_eq_true c12
          clear c12
          have H' := Aside0.mk H
          clear H
          have hcz13_0 : w8.cell? ⟨gb565, 0, none⟩ = some (.int .i64 a0_0) := (blk_cell BK565.out 0).trans rfl
          have hcz13_1 : w8.cell? ⟨gb565, 1, none⟩ = some (.slice A0_1 l0_1.length c0_1) := (blk_cell BK565.out 1).trans rfl
          have hfz13_0 := blk_frozen BK565.out 0
          have hfz13_1 := blk_frozen BK565.out 1
          go_wp2_with (first | ((with_reducible refine gate_callee (f := 37) rfl ?_); refine goesL_ (some 23) rfl rfl Try.func37 (by kernel_rfl) rfl #[.agg #[.int .i64 a0_0, .slice A0_1 l0_1.length c0_1]] rfl (by (try simp only [List.map_toArray, List.map_cons, List.map_nil]); first | done | rfl | (simp only [List.length_drop, List.length_take]; rfl)) ?_; (with_reducible refine (tenorlaw6_Few.calls a0_0 _ _ l0_1 true _ ?side1 ?side2 A9.out).mono ?_); (case side1 => repeat (first | exact (Kd.C_below HR0_1.out HB.out) | (with_reducible refine Kd.C_alloc ?_ _) | (with_reducible refine Kd.C_drewN ?_ _) | (with_reducible refine Kd.C_drew ?_))); (case side2 => exact HC0_1.out); rintro e w14 ⟨rfl, hb⟩; refine ⟨_, rfl, ?_⟩; have n0_ := Aside0.mk (blk_below (g := gb565) (o := .cells #[.int .i64 a0_0, .slice A0_1 l0_1.length c0_1] 24 (0, 0)) (by (with_reducible repeat (first | refine blk_drewN ?_ _ | refine blk_drew ?_ | refine blk_alloc ?_ _)); exact BK565.out) hb); have n1_ := Aside0.mk (below_step (by repeat (first | (with_reducible first | exact HB.out | apply below_alloc | apply pw_below_drewN | apply below_drew1 | refine below_set ?_ GE565.out) | exact HB.out)) hb); clear BK565; clear HB; have BK565 := n0_; have HB := n1_; clear n0_ n1_; (try clear hb); (try clear hb2); (try clear hk); (try clear hi)))
          go_meet
          case rel => exact ⟨_, (true), (by first | rfl | (simp; done) | (simp [*]; done)), H', ⟨by first | omega | exact Nat.le_refl _⟩, ⟨by (with_reducible repeat (first | refine blk_drewN ?_ _ | refine blk_drew ?_ | refine blk_alloc ?_ _)); exact BK565.out⟩, ⟨by repeat (first | (with_reducible first | exact HB.out | apply below_alloc | apply pw_below_drewN | apply below_drew1 | refine below_set ?_ GE565.out) | exact HB.out)⟩⟩
        · rw [if_neg c12] at H
          have c12b0 : decide (a2 < 0) = false := decide_eq_false c12
          clear c12
          have H' := Aside0.mk H
          clear H
          have hcz15_0 : w8.cell? ⟨gb565, 0, none⟩ = some (.int .i64 a0_0) := (blk_cell BK565.out 0).trans rfl
          have hcz15_1 : w8.cell? ⟨gb565, 1, none⟩ = some (.slice A0_1 l0_1.length c0_1) := (blk_cell BK565.out 1).trans rfl
          have hfz15_0 := blk_frozen BK565.out 0
          have hfz15_1 := blk_frozen BK565.out 1
          go_wp2_with (first | ((with_reducible refine gate_callee (f := 37) rfl ?_); refine goesL_ (some 23) rfl rfl Try.func37 (by kernel_rfl) rfl #[.agg #[.int .i64 a0_0, .slice A0_1 l0_1.length c0_1]] rfl (by (try simp only [List.map_toArray, List.map_cons, List.map_nil]); first | done | rfl | (simp only [List.length_drop, List.length_take]; rfl)) ?_; (with_reducible refine (tenorlaw6_Few.calls a0_0 _ _ l0_1 true _ ?side1 ?side2 A9.out).mono ?_); (case side1 => repeat (first | exact (Kd.C_below HR0_1.out HB.out) | (with_reducible refine Kd.C_alloc ?_ _) | (with_reducible refine Kd.C_drewN ?_ _) | (with_reducible refine Kd.C_drew ?_))); (case side2 => exact HC0_1.out); rintro e w16 ⟨rfl, hb⟩; refine ⟨_, rfl, ?_⟩; have n0_ := Aside0.mk (blk_below (g := gb565) (o := .cells #[.int .i64 a0_0, .slice A0_1 l0_1.length c0_1] 24 (0, 0)) (by (with_reducible repeat (first | refine blk_drewN ?_ _ | refine blk_drew ?_ | refine blk_alloc ?_ _)); exact BK565.out) hb); have n1_ := Aside0.mk (below_step (by repeat (first | (with_reducible first | exact HB.out | apply below_alloc | apply pw_below_drewN | apply below_drew1 | refine below_set ?_ GE565.out) | exact HB.out)) hb); clear BK565; clear HB; have BK565 := n0_; have HB := n1_; clear n0_ n1_; (try clear hb); (try clear hb2); (try clear hk); (try clear hi)))
          go_meet
          case rel => exact ⟨_, (decide (a2 > 4)), (by first | rfl | (simp; done) | (simp [*]; done)), H', ⟨by first | omega | exact Nat.le_refl _⟩, ⟨by (with_reducible repeat (first | refine blk_drewN ?_ _ | refine blk_drew ?_ | refine blk_alloc ?_ _)); exact BK565.out⟩, ⟨by repeat (first | (with_reducible first | exact HB.out | apply below_alloc | apply pw_below_drewN | apply below_drew1 | refine below_set ?_ GE565.out) | exact HB.out)⟩⟩
      · rw [if_neg c11] at H
        have c11b0 : (t567 == 0) = false := beq_eq_false_iff_ne.mpr c11
        have c11b1 : (t567 != 0) = true := bne_iff_ne.mpr c11
        (first | rw [c11b0] | (simp only [i64_w, i32_w]; rw [c11b0]) | skip)
        have H' := Aside0.mk H
        clear H
        have hcz17_0 : w8.cell? ⟨gb565, 0, none⟩ = some (.int .i64 a0_0) := (blk_cell BK565.out 0).trans rfl
        have hcz17_1 : w8.cell? ⟨gb565, 1, none⟩ = some (.slice A0_1 l0_1.length c0_1) := (blk_cell BK565.out 1).trans rfl
        have hfz17_0 := blk_frozen BK565.out 0
        have hfz17_1 := blk_frozen BK565.out 1
        go_wp2_with (first | ((with_reducible refine gate_callee (f := 37) rfl ?_); refine goesL_ (some 23) rfl rfl Try.func37 (by kernel_rfl) rfl #[.agg #[.int .i64 a0_0, .slice A0_1 l0_1.length c0_1]] rfl (by (try simp only [List.map_toArray, List.map_cons, List.map_nil]); first | done | rfl | (simp only [List.length_drop, List.length_take]; rfl)) ?_; (with_reducible refine (tenorlaw6_Few.calls a0_0 _ _ l0_1 true _ ?side1 ?side2 A9.out).mono ?_); (case side1 => repeat (first | exact (Kd.C_below HR0_1.out HB.out) | (with_reducible refine Kd.C_alloc ?_ _) | (with_reducible refine Kd.C_drewN ?_ _) | (with_reducible refine Kd.C_drew ?_))); (case side2 => exact HC0_1.out); rintro e w18 ⟨rfl, hb⟩; refine ⟨_, rfl, ?_⟩; have n0_ := Aside0.mk (blk_below (g := gb565) (o := .cells #[.int .i64 a0_0, .slice A0_1 l0_1.length c0_1] 24 (0, 0)) (by (with_reducible repeat (first | refine blk_drewN ?_ _ | refine blk_drew ?_ | refine blk_alloc ?_ _)); exact BK565.out) hb); have n1_ := Aside0.mk (below_step (by repeat (first | (with_reducible first | exact HB.out | apply below_alloc | apply pw_below_drewN | apply below_drew1 | refine below_set ?_ GE565.out) | exact HB.out)) hb); clear BK565; clear HB; have BK565 := n0_; have HB := n1_; clear n0_ n1_; (try clear hb); (try clear hb2); (try clear hk); (try clear hi)))
        go_meet
        case rel => exact ⟨_, (true), (by first | rfl | (simp; done) | (simp [*]; done)), H', ⟨by first | omega | exact Nat.le_refl _⟩, ⟨by (with_reducible repeat (first | refine blk_drewN ?_ _ | refine blk_drew ?_ | refine blk_alloc ?_ _)); exact BK565.out⟩, ⟨by repeat (first | (with_reducible first | exact HB.out | apply below_alloc | apply pw_below_drewN | apply below_drew1 | refine below_set ?_ GE565.out) | exact HB.out)⟩⟩
    · replace c10 := Bool.eq_false_iff.mpr c10
      subst c10
      have H1 : (tenorlaw6_CalOpen.j0 k a1 a2 t566 true a0_0 l0_1) = some r := by rw [if_neg (show ¬ (false = true) by decide)] at H; exact H
      clear H
      have H := H1
      clear H1
      have H' := Aside0.mk H
      clear H
      have hcz19_0 : w8.cell? ⟨gb565, 0, none⟩ = some (.int .i64 a0_0) := (blk_cell BK565.out 0).trans rfl
      have hcz19_1 : w8.cell? ⟨gb565, 1, none⟩ = some (.slice A0_1 l0_1.length c0_1) := (blk_cell BK565.out 1).trans rfl
      have hfz19_0 := blk_frozen BK565.out 0
      have hfz19_1 := blk_frozen BK565.out 1
      go_wp2_with (first | ((with_reducible refine gate_callee (f := 37) rfl ?_); refine goesL_ (some 23) rfl rfl Try.func37 (by kernel_rfl) rfl #[.agg #[.int .i64 a0_0, .slice A0_1 l0_1.length c0_1]] rfl (by (try simp only [List.map_toArray, List.map_cons, List.map_nil]); first | done | rfl | (simp only [List.length_drop, List.length_take]; rfl)) ?_; (with_reducible refine (tenorlaw6_Few.calls a0_0 _ _ l0_1 false _ ?side1 ?side2 A9.out).mono ?_); (case side1 => repeat (first | exact (Kd.C_below HR0_1.out HB.out) | (with_reducible refine Kd.C_alloc ?_ _) | (with_reducible refine Kd.C_drewN ?_ _) | (with_reducible refine Kd.C_drew ?_))); (case side2 => exact HC0_1.out); rintro e w20 ⟨rfl, hb⟩; refine ⟨_, rfl, ?_⟩; have n0_ := Aside0.mk (blk_below (g := gb565) (o := .cells #[.int .i64 a0_0, .slice A0_1 l0_1.length c0_1] 24 (0, 0)) (by (with_reducible repeat (first | refine blk_drewN ?_ _ | refine blk_drew ?_ | refine blk_alloc ?_ _)); exact BK565.out) hb); have n1_ := Aside0.mk (below_step (by repeat (first | (with_reducible first | exact HB.out | apply below_alloc | apply pw_below_drewN | apply below_drew1 | refine below_set ?_ GE565.out) | exact HB.out)) hb); clear BK565; clear HB; have BK565 := n0_; have HB := n1_; clear n0_ n1_; (try clear hb); (try clear hb2); (try clear hk); (try clear hi)))
      go_meet
      case rel => exact ⟨_, (true), (by first | rfl | (simp; done) | (simp [*]; done)), H', ⟨by first | omega | exact Nat.le_refl _⟩, ⟨by (with_reducible repeat (first | refine blk_drewN ?_ _ | refine blk_drew ?_ | refine blk_alloc ?_ _)); exact BK565.out⟩, ⟨by repeat (first | (with_reducible first | exact HB.out | apply below_alloc | apply pw_below_drewN | apply below_drew1 | refine below_set ?_ GE565.out) | exact HB.out)⟩⟩
  case rest =>
    clear HC5
    try clear c1
    try clear p2
    try clear c3
    try clear c10
    try clear c11
    try clear c11b0
    try clear c11b1
    try clear c12
    try clear c12b0
    try clear hcz13_0
    try clear hcz13_1
    try clear hcz15_0
    try clear hcz15_1
    try clear hcz17_0
    try clear hcz17_1
    try clear hcz19_0
    try clear hcz19_1
    try clear hcz7_0
    try clear hcz7_1
    try clear hfz13_0
    try clear hfz13_1
    try clear hfz15_0
    try clear hfz15_1
    try clear hfz17_0
    try clear hfz17_1
    try clear hfz19_0
    try clear hfz19_1
    try clear hfz7_0
    try clear hfz7_1
    obtain ⟨kq, x36_4, rfl, HA, HJ4, BK565, HB⟩ := hcut
    cases kq with
    | zero => exact absurd HA.out (by simp [tenorlaw6_CalOpen.j0])
    | succ kj4 =>
      have H := HA.out
      clear HA
      simp only [tenorlaw6_CalOpen.j0] at H
      by_cases c21 : x36_4 = true
      · subst c21
        have H1 : ((tenorlaw6_awake.f).bind fun t569 => (some t569)) = some r := by rw [if_pos rfl] at H; exact H
        clear H
        have H := H1
        clear H1
        replace H := Option.bind_eq_some_iff.mp H
        obtain ⟨t569, A220, H⟩ := H
        replace H : (some t569) = some r := H
        have A22 := Aside0.mk A220
        clear A220
        obtain rfl := Option.some.inj H
        go_wp2_with (first | ((with_reducible refine gate_callee (f := 32) rfl ?_); refine goesL_ (some 37) rfl rfl Try.func32 (by kernel_rfl) rfl #[] rfl (by (try simp only [List.map_toArray, List.map_cons, List.map_nil]); first | done | rfl | (simp only [List.length_drop, List.length_take]; rfl)) ?_; (with_reducible refine (tenorlaw6_awake.calls  t569 _ A22.out).mono ?_); rintro e w23 ⟨rfl, hb⟩; refine ⟨_, rfl, ?_⟩; have n0_ := Aside0.mk (blk_below (g := gb565) (o := .cells #[.int .i64 a0_0, .slice A0_1 l0_1.length c0_1] 24 (0, 0)) (by (with_reducible repeat (first | refine blk_drewN ?_ _ | refine blk_drew ?_ | refine blk_alloc ?_ _)); exact BK565.out) hb); have n1_ := Aside0.mk (below_step (by repeat (first | (with_reducible first | exact HB.out | apply below_alloc | apply pw_below_drewN | apply below_drew1 | refine below_set ?_ GE565.out) | exact HB.out)) hb); clear BK565; clear HB; have BK565 := n0_; have HB := n1_; clear n0_ n1_; (try clear hb); (try clear hb2); (try clear hk); (try clear hi)))
        go_ret
        exact ⟨by first | rfl | (simp [errW_none, errW_some] <;> rfl) | (simp [*, errW_none, errW_some] <;> rfl), by repeat (first | (with_reducible first | exact HB.out | apply below_alloc | apply pw_below_drewN | apply below_drew1 | refine below_set ?_ GE565.out) | exact HB.out)⟩
      · replace c21 := Bool.eq_false_iff.mpr c21
        subst c21
        have H1 : ((cal_Adjust.f a0_0 l0_1 a1 a2).bind fun bt570 => (if bt570.2 = 0 then (if t566 = true then (tenorlaw6_CalOpen.j1 kj4 a1 a2 bt570.1 true a0_0 l0_1) else (tenorlaw6_CalOpen.j1 kj4 a1 a2 bt570.1 (a2 == 0) a0_0 l0_1)) else (if bt570.2 = 51 then (if t566 = true then (some false) else (if a2 = 0 then (some false) else ((tenorlaw6_awake.f).bind fun t572 => (some t572)))) else (some false)))) = some r := by rw [if_neg (show ¬ (false = true) by decide)] at H; exact H
        clear H
        have H := H1
        clear H1
        replace H := Option.bind_eq_some_iff.mp H
        obtain ⟨⟨t570, t571⟩, A240, H⟩ := H
        replace H : (if t571 = 0 then (if t566 = true then (tenorlaw6_CalOpen.j1 kj4 a1 a2 t570 true a0_0 l0_1) else (tenorlaw6_CalOpen.j1 kj4 a1 a2 t570 (a2 == 0) a0_0 l0_1)) else (if t571 = 51 then (if t566 = true then (some false) else (if a2 = 0 then (some false) else ((tenorlaw6_awake.f).bind fun t572 => (some t572)))) else (some false))) = some r := H
        have A24 := Aside0.mk A240
        clear A240
        by_cases c25 : t571 = 0
        · rw [if_pos c25] at H
          have c25b0 : (t571 == 0) = true := beq_iff_eq.mpr c25
          have c25b1 : (t571 != 0) = false := bne_eq_false_iff_eq.mpr c25
          clear c25
          have HC26 := Aside0.mk H
          clear H
          have hcz27_0 : wc.cell? ⟨gb565, 0, none⟩ = some (.int .i64 a0_0) := (blk_cell BK565.out 0).trans rfl
          have hcz27_1 : wc.cell? ⟨gb565, 1, none⟩ = some (.slice A0_1 l0_1.length c0_1) := (blk_cell BK565.out 1).trans rfl
          have hfz27_0 := blk_frozen BK565.out 0
          have hfz27_1 := blk_frozen BK565.out 1
          go_upto_region 7 with (first | ((with_reducible refine gate_callee (f := 38) rfl ?_); refine goesL_ (some 42) rfl rfl Try.func38 (by kernel_rfl) rfl #[.agg #[.int .i64 a0_0, .slice A0_1 l0_1.length c0_1], .int .i64 a1, .int .i64 a2] rfl (by (try simp only [List.map_toArray, List.map_cons, List.map_nil]); first | done | rfl | (simp only [List.length_drop, List.length_take]; rfl)) ?_; (with_reducible refine (cal_Adjust.calls a0_0 _ _ l0_1 a1 a2 t570 t571 _ ?side1 ?side2 A24.out).mono ?_); (case side1 => repeat (first | exact (Kd.C_below HR0_1.out HB.out) | (with_reducible refine Kd.C_alloc ?_ _) | (with_reducible refine Kd.C_drewN ?_ _) | (with_reducible refine Kd.C_drew ?_))); (case side2 => exact HC0_1.out); rintro e w28 ⟨rfl, hb⟩; refine ⟨_, rfl, ?_⟩; have n0_ := Aside0.mk (blk_below (g := gb565) (o := .cells #[.int .i64 a0_0, .slice A0_1 l0_1.length c0_1] 24 (0, 0)) (by (with_reducible repeat (first | refine blk_drewN ?_ _ | refine blk_drew ?_ | refine blk_alloc ?_ _)); exact BK565.out) hb); have n1_ := Aside0.mk (below_step (by repeat (first | (with_reducible first | exact HB.out | apply below_alloc | apply pw_below_drewN | apply below_drew1 | refine below_set ?_ GE565.out) | exact HB.out)) hb); clear BK565; clear HB; have BK565 := n0_; have HB := n1_; clear n0_ n1_; (try clear hb); (try clear hb2); (try clear hk); (try clear hi)))
          (try simp only [Act.put, List.setIfInBounds_toArray, List.set_cons_zero, List.set_cons_succ])
          go_cut [64] (fun v64 wc => ∃ (kq : Nat) (x64_25 : Bool), v64 = .bool x64_25 ∧ Aside0 (tenorlaw6_CalOpen.j1 kq a1 a2 t570 x64_25 a0_0 l0_1 = some r) ∧ Aside0 (kq ≤ kj4) ∧ Aside0 (wc.heap[gb565]? = some (.cells #[.int .i64 a0_0, (.slice A0_1 l0_1.length c0_1)] 24 (0, 0))) ∧ Aside0 (Below w.heap.size w wc))
          case first =>
            have H := HC26.out
            clear HC26
            by_cases c29 : t566 = true
            · subst c29
              have H1 : (tenorlaw6_CalOpen.j1 kj4 a1 a2 t570 true a0_0 l0_1) = some r := by rw [if_pos rfl] at H; exact H
              clear H
              have H := H1
              clear H1
              have H' := Aside0.mk H
              clear H
              go_wp2
              go_meet
              case rel => exact ⟨_, (true), (by first | rfl | (simp; done) | (simp [*]; done)), H', ⟨by have := HJ4.out; first | omega | exact Nat.le_refl _⟩, ⟨by (with_reducible repeat (first | refine blk_drewN ?_ _ | refine blk_drew ?_ | refine blk_alloc ?_ _)); exact BK565.out⟩, ⟨by repeat (first | (with_reducible first | exact HB.out | apply below_alloc | apply pw_below_drewN | apply below_drew1 | refine below_set ?_ GE565.out) | exact HB.out)⟩⟩
            · replace c29 := Bool.eq_false_iff.mpr c29
              subst c29
              have H1 : (tenorlaw6_CalOpen.j1 kj4 a1 a2 t570 (a2 == 0) a0_0 l0_1) = some r := by rw [if_neg (show ¬ (false = true) by decide)] at H; exact H
              clear H
              have H := H1
              clear H1
              have H' := Aside0.mk H
              clear H
              go_wp2
              go_meet
              case rel => exact ⟨_, ((a2 == 0)), (by first | rfl | (simp; done) | (simp [*]; done)), H', ⟨by have := HJ4.out; first | omega | exact Nat.le_refl _⟩, ⟨by (with_reducible repeat (first | refine blk_drewN ?_ _ | refine blk_drew ?_ | refine blk_alloc ?_ _)); exact BK565.out⟩, ⟨by repeat (first | (with_reducible first | exact HB.out | apply below_alloc | apply pw_below_drewN | apply below_drew1 | refine below_set ?_ GE565.out) | exact HB.out)⟩⟩
          case rest =>
            clear HC26
            try clear c1
            try clear c2
            try clear p2
            try clear c3
            try clear c10
            try clear c11
            try clear c11b0
            try clear c11b1
            try clear c12
            try clear c12b0
            try clear c21
            try clear c25
            try clear c25b0
            try clear c25b1
            try clear c29
            try clear hcz13_0
            try clear hcz13_1
            try clear hcz15_0
            try clear hcz15_1
            try clear hcz17_0
            try clear hcz17_1
            try clear hcz19_0
            try clear hcz19_1
            try clear hcz27_0
            try clear hcz27_1
            try clear hcz7_0
            try clear hcz7_1
            try clear hfz13_0
            try clear hfz13_1
            try clear hfz15_0
            try clear hfz15_1
            try clear hfz17_0
            try clear hfz17_1
            try clear hfz19_0
            try clear hfz19_1
            try clear hfz27_0
            try clear hfz27_1
            try clear hfz7_0
            try clear hfz7_1
            try clear p2
            obtain ⟨kq, x64_25, rfl, HA, HJ25, BK565, HB⟩ := hcut
            cases kq with
            | zero => exact absurd HA.out (by simp [tenorlaw6_CalOpen.j1])
            | succ kj25 =>
              have H := HA.out
              clear HA
              simp only [tenorlaw6_CalOpen.j1] at H
              by_cases c30 : x64_25 = true
              · subst c30
                have H1 : (if t570 = a1 then ((tenorlaw6_awake.f).bind fun t573 => (some t573)) else (some false)) = some r := by rw [if_pos rfl] at H; exact H
                clear H
                have H := H1
                clear H1
                by_cases c31 : t570 = a1
                · rw [if_pos c31] at H
                  have c31b0 : (t570 == a1) = true := beq_iff_eq.mpr c31
                  have c31b1 : (t570 != a1) = false := bne_eq_false_iff_eq.mpr c31
                  clear c31
                  replace H := Option.bind_eq_some_iff.mp H
                  obtain ⟨t573, A320, H⟩ := H
                  replace H : (some t573) = some r := H
                  have A32 := Aside0.mk A320
                  clear A320
                  obtain rfl := Option.some.inj H
                  go_wp2_with (first | (go_at_call 32; (with_reducible refine (tenorlaw6_awake.calls  t573 _ A32.out).mono ?_); rintro e w33 ⟨rfl, hb⟩; have n0_ := Aside0.mk (blk_below (g := gb565) (o := .cells #[.int .i64 a0_0, .slice A0_1 l0_1.length c0_1] 24 (0, 0)) (by (with_reducible repeat (first | refine blk_drewN ?_ _ | refine blk_drew ?_ | refine blk_alloc ?_ _)); exact BK565.out) hb); have n1_ := Aside0.mk (below_step (by repeat (first | (with_reducible first | exact HB.out | apply below_alloc | apply pw_below_drewN | apply below_drew1 | refine below_set ?_ GE565.out) | exact HB.out)) hb); clear BK565; clear HB; have BK565 := n0_; have HB := n1_; clear n0_ n1_; (try clear hb); (try clear hb2); (try clear hk); (try clear hi)))
                  go_ret
                  exact ⟨by first | rfl | (simp [errW_none, errW_some] <;> rfl) | (simp [*, errW_none, errW_some] <;> rfl), by repeat (first | (with_reducible first | exact HB.out | apply below_alloc | apply pw_below_drewN | apply below_drew1 | refine below_set ?_ GE565.out) | exact HB.out)⟩
                · rw [if_neg c31] at H
                  have c31b0 : (t570 == a1) = false := beq_eq_false_iff_ne.mpr c31
                  have c31b1 : (t570 != a1) = true := bne_iff_ne.mpr c31
                  exact absurd (H.trans (congrArg some HT)) (by decide)
              · replace c30 := Bool.eq_false_iff.mpr c30
                subst c30
                have H1 : ((cal_Open.f a0_0 l0_1 t570).bind fun bt574 => (if bt574.2 = 0 then (tenorlaw6_CalOpen.j2 kj25 a1 a2 t570 (!bt574.1) a0_0 l0_1) else (tenorlaw6_CalOpen.j2 kj25 a1 a2 t570 true a0_0 l0_1))) = some r := by rw [if_neg (show ¬ (false = true) by decide)] at H; exact H
                clear H
                have H := H1
                clear H1
                replace H := Option.bind_eq_some_iff.mp H
                obtain ⟨⟨t574, t575⟩, A340, H⟩ := H
                replace H : (if t575 = 0 then (tenorlaw6_CalOpen.j2 kj25 a1 a2 t570 (!t574) a0_0 l0_1) else (tenorlaw6_CalOpen.j2 kj25 a1 a2 t570 true a0_0 l0_1)) = some r := H
                have A34 := Aside0.mk A340
                clear A340
                have HC35 := Aside0.mk H
                clear H
                have hcz36_0 : wc.cell? ⟨gb565, 0, none⟩ = some (.int .i64 a0_0) := (blk_cell BK565.out 0).trans rfl
                have hcz36_1 : wc.cell? ⟨gb565, 1, none⟩ = some (.slice A0_1 l0_1.length c0_1) := (blk_cell BK565.out 1).trans rfl
                have hfz36_0 := blk_frozen BK565.out 0
                have hfz36_1 := blk_frozen BK565.out 1
                go_upto_region 10 with (first | ((with_reducible refine gate_callee (f := 33) rfl ?_); refine goesL_ (some 74) rfl rfl Try.func33 (by kernel_rfl) rfl #[.agg #[.int .i64 a0_0, .slice A0_1 l0_1.length c0_1], .int .i64 t570] rfl (by (try simp only [List.map_toArray, List.map_cons, List.map_nil]); first | done | rfl | (simp only [List.length_drop, List.length_take]; rfl)) ?_; (with_reducible refine (cal_Open.calls a0_0 _ _ l0_1 t570 t574 t575 _ ?side1 ?side2 A34.out).mono ?_); (case side1 => repeat (first | exact (Kd.C_below HR0_1.out HB.out) | (with_reducible refine Kd.C_alloc ?_ _) | (with_reducible refine Kd.C_drewN ?_ _) | (with_reducible refine Kd.C_drew ?_))); (case side2 => exact HC0_1.out); rintro e w37 ⟨rfl, hb⟩; refine ⟨_, rfl, ?_⟩; have n0_ := Aside0.mk (blk_below (g := gb565) (o := .cells #[.int .i64 a0_0, .slice A0_1 l0_1.length c0_1] 24 (0, 0)) (by (with_reducible repeat (first | refine blk_drewN ?_ _ | refine blk_drew ?_ | refine blk_alloc ?_ _)); exact BK565.out) hb); have n1_ := Aside0.mk (below_step (by repeat (first | (with_reducible first | exact HB.out | apply below_alloc | apply pw_below_drewN | apply below_drew1 | refine below_set ?_ GE565.out) | exact HB.out)) hb); clear BK565; clear HB; have BK565 := n0_; have HB := n1_; clear n0_ n1_; (try clear hb); (try clear hb2); (try clear hk); (try clear hi)))
                (try simp only [Act.put, List.setIfInBounds_toArray, List.set_cons_zero, List.set_cons_succ])
                go_cut [82] (fun v82 wc => ∃ (kq : Nat) (x82_34 : Bool), v82 = .bool x82_34 ∧ Aside0 (tenorlaw6_CalOpen.j2 kq a1 a2 t570 x82_34 a0_0 l0_1 = some r) ∧ Aside0 (kq ≤ kj25) ∧ Aside0 (wc.heap[gb565]? = some (.cells #[.int .i64 a0_0, (.slice A0_1 l0_1.length c0_1)] 24 (0, 0))) ∧ Aside0 (Below w.heap.size w wc))
                case first =>
                  have H := HC35.out
                  clear HC35
                  by_cases c38 : t575 = 0
                  · rw [if_pos c38] at H
                    have c38b0 : (t575 == 0) = true := beq_iff_eq.mpr c38
                    have c38b1 : (t575 != 0) = false := bne_eq_false_iff_eq.mpr c38
                    clear c38
                    (first | rw [c38b0] | (simp only [i64_w, i32_w]; rw [c38b0]) | skip)
                    have H' := Aside0.mk H
                    clear H
                    go_wp2
                    go_meet
                    case rel => exact ⟨_, (!t574), (by first | rfl | (simp; done) | (simp [*]; done)), H', ⟨by have := HJ4.out; have := HJ25.out; first | omega | exact Nat.le_refl _⟩, ⟨by (with_reducible repeat (first | refine blk_drewN ?_ _ | refine blk_drew ?_ | refine blk_alloc ?_ _)); exact BK565.out⟩, ⟨by repeat (first | (with_reducible first | exact HB.out | apply below_alloc | apply pw_below_drewN | apply below_drew1 | refine below_set ?_ GE565.out) | exact HB.out)⟩⟩
                  · rw [if_neg c38] at H
                    have c38b0 : (t575 == 0) = false := beq_eq_false_iff_ne.mpr c38
                    have c38b1 : (t575 != 0) = true := bne_iff_ne.mpr c38
                    (first | rw [c38b0] | (simp only [i64_w, i32_w]; rw [c38b0]) | skip)
                    have H' := Aside0.mk H
                    clear H
                    go_wp2
                    go_meet
                    case rel => exact ⟨_, (true), (by first | rfl | (simp; done) | (simp [*]; done)), H', ⟨by have := HJ4.out; have := HJ25.out; first | omega | exact Nat.le_refl _⟩, ⟨by (with_reducible repeat (first | refine blk_drewN ?_ _ | refine blk_drew ?_ | refine blk_alloc ?_ _)); exact BK565.out⟩, ⟨by repeat (first | (with_reducible first | exact HB.out | apply below_alloc | apply pw_below_drewN | apply below_drew1 | refine below_set ?_ GE565.out) | exact HB.out)⟩⟩
                case rest =>
                  clear HC35
                  try clear c1
                  try clear c2
                  try clear p2
                  try clear c3
                  try clear c10
                  try clear c11
                  try clear c11b0
                  try clear c11b1
                  try clear c12
                  try clear c12b0
                  try clear c21
                  try clear c25
                  try clear c25b0
                  try clear c25b1
                  try clear c29
                  try clear c30
                  try clear c31
                  try clear c31b0
                  try clear c31b1
                  try clear c32
                  try clear c33
                  try clear c37
                  try clear c38
                  try clear c38b0
                  try clear c38b1
                  try clear hcz13_0
                  try clear hcz13_1
                  try clear hcz15_0
                  try clear hcz15_1
                  try clear hcz17_0
                  try clear hcz17_1
                  try clear hcz19_0
                  try clear hcz19_1
                  try clear hcz27_0
                  try clear hcz27_1
                  try clear hcz36_0
                  try clear hcz36_1
                  try clear hcz7_0
                  try clear hcz7_1
                  try clear hfz13_0
                  try clear hfz13_1
                  try clear hfz15_0
                  try clear hfz15_1
                  try clear hfz17_0
                  try clear hfz17_1
                  try clear hfz19_0
                  try clear hfz19_1
                  try clear hfz27_0
                  try clear hfz27_1
                  try clear hfz36_0
                  try clear hfz36_1
                  try clear hfz7_0
                  try clear hfz7_1
                  try clear p2
                  obtain ⟨kq, x82_34, rfl, HA, HJ34, BK565, HB⟩ := hcut
                  cases kq with
                  | zero => exact absurd HA.out (by simp [tenorlaw6_CalOpen.j2])
                  | succ kj34 =>
                    have H := HA.out
                    clear HA
                    simp only [tenorlaw6_CalOpen.j2] at H
                    by_cases c39 : x82_34 = true
                    · subst c39
                      have H1 : (some false) = some r := by rw [if_pos rfl] at H; exact H
                      clear H
                      have H := H1
                      clear H1
                      exact absurd (H.trans (congrArg some HT)) (by decide)
                    · replace c39 := Bool.eq_false_iff.mpr c39
                      subst c39
                      have H1 : (tenorlaw6_CalOpen.l0 kj34 a1 a2 t570 (wrap64 ((mn a1 t570) + 1)) a0_0 l0_1) = some r := by rw [if_neg (show ¬ (false = true) by decide)] at H; exact H
                      clear H
                      have H := H1
                      clear H1
                      obtain ⟨ji40, hji40⟩ : ∃ j_ : Int, (mn a1 t570) = j_ := ⟨_, rfl⟩
                      replace H : (tenorlaw6_CalOpen.l0 kj34 a1 a2 t570 (wrap64 ((ji40) + 1)) a0_0 l0_1) = some r := by first | (rw [hji40] at H; exact H) | (simp only [hji40] at H ⊢; exact H)
                      have hji40_ : (if t570 < a1 then t570 else a1) = ji40 := hji40
                      have H' := Aside0.mk H
                      clear H
                      go_wp2
                      go_loopg [13] kj34 (fun kq v13 w' => ∃ (x13_4 : Int), v13 = .int .i64 x13_4 ∧ Aside0 (tenorlaw6_CalOpen.l0 kq a1 a2 t570 x13_4 a0_0 l0_1 = some r) ∧ Aside0 (kq ≤ kj34) ∧ Aside0 (w'.heap[gb565]? = some (.cells #[.int .i64 a0_0, (.slice A0_1 l0_1.length c0_1)] 24 (0, 0))) ∧ Aside0 (Below w.heap.size w w'))
                      case atStart => exact ⟨(wrap64 ((ji40) + 1)), (by first | rfl | (simp; done) | (simp only [← hji40] <;> (first | rfl | simp)) | (simp [*]; done)), H', ⟨Nat.le_refl _⟩, ⟨by (with_reducible repeat (first | refine blk_drewN ?_ _ | refine blk_drew ?_ | refine blk_alloc ?_ _)); exact BK565.out⟩, ⟨by repeat (first | (with_reducible first | exact HB.out | apply below_alloc | apply pw_below_drewN | apply below_drew1 | refine below_set ?_ GE565.out) | exact HB.out)⟩⟩
                      case round =>
                        clear H'
                        try clear c1
                        try clear c2
                        try clear p2
                        try clear c3
                        try clear p6
                        try clear c10
                        try clear c11
                        try clear c11b0
                        try clear c11b1
                        try clear c12
                        try clear c12b0
                        try clear c21
                        try clear c25
                        try clear c25b0
                        try clear c25b1
                        try clear c29
                        try clear c30
                        try clear c31
                        try clear c31b0
                        try clear c31b1
                        try clear c32
                        try clear c33
                        try clear c37
                        try clear c38
                        try clear c38b0
                        try clear c38b1
                        try clear c39
                        try clear hcz13_0
                        try clear hcz13_1
                        try clear hcz15_0
                        try clear hcz15_1
                        try clear hcz17_0
                        try clear hcz17_1
                        try clear hcz19_0
                        try clear hcz19_1
                        try clear hcz27_0
                        try clear hcz27_1
                        try clear hcz36_0
                        try clear hcz36_1
                        try clear hcz7_0
                        try clear hcz7_1
                        try clear hfz13_0
                        try clear hfz13_1
                        try clear hfz15_0
                        try clear hfz15_1
                        try clear hfz17_0
                        try clear hfz17_1
                        try clear hfz19_0
                        try clear hfz19_1
                        try clear hfz27_0
                        try clear hfz27_1
                        try clear hfz36_0
                        try clear hfz36_1
                        try clear hfz7_0
                        try clear hfz7_1
                        try clear p2
                        obtain ⟨x13_4, rfl, HA, HK4, BK565, HB⟩ := hrel
                        cases gk with
                        | zero => exact absurd HA.out (by simp [tenorlaw6_CalOpen.l0])
                        | succ k4 =>
                          have H := HA.out
                          clear HA
                          simp only [tenorlaw6_CalOpen.l0] at H
                          obtain ⟨ji41, hji41⟩ : ∃ j_ : Int, (mx a1 t570) = j_ := ⟨_, rfl⟩
                          replace H : (if x13_4 < (ji41) then ((cal_Open.f a0_0 l0_1 x13_4).bind fun bt576 => (if bt576.2 = 0 then (if bt576.1 = true then (some false) else (tenorlaw6_CalOpen.l0 k4 a1 a2 t570 (wrap64 (x13_4 + 1)) a0_0 l0_1)) else (some false))) else (if a2 = 1 then (if t570 > a1 then ((tenorlaw6_awake.f).bind fun t578 => (some t578)) else (some false)) else (if a2 = 2 then (if t570 < a1 then ((tenorlaw6_awake.f).bind fun t579 => (some t579)) else (some false)) else ((tenorlaw6_awake.f).bind fun t580 => (some t580))))) = some r := by first | (rw [hji41] at H; exact H) | (simp only [hji41] at H ⊢; exact H)
                          have hji41_ : (if a1 < t570 then t570 else a1) = ji41 := hji41
                          by_cases c42 : x13_4 < (ji41)
                          · rw [if_pos c42] at H
                            have c42b0 : decide (x13_4 < (ji41)) = true := decide_eq_true c42
                            clear c42
                            replace H := Option.bind_eq_some_iff.mp H
                            obtain ⟨⟨t576, t577⟩, A430, H⟩ := H
                            replace H : (if t577 = 0 then (if t576 = true then (some false) else (tenorlaw6_CalOpen.l0 k4 a1 a2 t570 (wrap64 (x13_4 + 1)) a0_0 l0_1)) else (some false)) = some r := H
                            have A43 := Aside0.mk A430
                            clear A430
                            by_cases c44 : t577 = 0
                            · rw [if_pos c44] at H
                              have c44b0 : (t577 == 0) = true := beq_iff_eq.mpr c44
                              have c44b1 : (t577 != 0) = false := bne_eq_false_iff_eq.mpr c44
                              clear c44
                              by_cases c45 : t576 = true
                              · subst c45
                                have H1 : (some false) = some r := by rw [if_pos rfl] at H; exact H
                                clear H
                                have H := H1
                                clear H1
                                exact absurd (H.trans (congrArg some HT)) (by decide)
                              · replace c45 := Bool.eq_false_iff.mpr c45
                                subst c45
                                have H1 : (tenorlaw6_CalOpen.l0 k4 a1 a2 t570 (wrap64 (x13_4 + 1)) a0_0 l0_1) = some r := by rw [if_neg (show ¬ (false = true) by decide)] at H; exact H
                                clear H
                                have H := H1
                                clear H1
                                have H' := Aside0.mk H
                                clear H
                                have hcz48_0 : wr.cell? ⟨gb565, 0, none⟩ = some (.int .i64 a0_0) := (blk_cell BK565.out 0).trans rfl
                                have hcz48_1 : wr.cell? ⟨gb565, 1, none⟩ = some (.slice A0_1 l0_1.length c0_1) := (blk_cell BK565.out 1).trans rfl
                                have hfz48_0 := blk_frozen BK565.out 0
                                have hfz48_1 := blk_frozen BK565.out 1
                                go_wp2_with (first | ((with_reducible refine gate_callee (f := 33) rfl ?_); refine goesL_ (some 97) rfl rfl Try.func33 (by kernel_rfl) rfl #[.agg #[.int .i64 a0_0, .slice A0_1 l0_1.length c0_1], .int .i64 x13_4] rfl (by (try simp only [List.map_toArray, List.map_cons, List.map_nil]); first | done | rfl | (simp only [List.length_drop, List.length_take]; rfl)) ?_; (with_reducible refine (cal_Open.calls a0_0 _ _ l0_1 x13_4 false t577 _ ?side1 ?side2 A43.out).mono ?_); (case side1 => repeat (first | exact (Kd.C_below HR0_1.out HB.out) | (with_reducible refine Kd.C_alloc ?_ _) | (with_reducible refine Kd.C_drewN ?_ _) | (with_reducible refine Kd.C_drew ?_))); (case side2 => exact HC0_1.out); rintro e w49 ⟨rfl, hb⟩; refine ⟨_, rfl, ?_⟩; have n0_ := Aside0.mk (blk_below (g := gb565) (o := .cells #[.int .i64 a0_0, .slice A0_1 l0_1.length c0_1] 24 (0, 0)) (by (with_reducible repeat (first | refine blk_drewN ?_ _ | refine blk_drew ?_ | refine blk_alloc ?_ _)); exact BK565.out) hb); have n1_ := Aside0.mk (below_step (by repeat (first | (with_reducible first | exact HB.out | apply below_alloc | apply pw_below_drewN | apply below_drew1 | refine below_set ?_ GE565.out) | exact HB.out)) hb); clear BK565; clear HB; have BK565 := n0_; have HB := n1_; clear n0_ n1_; (try clear hb); (try clear hb2); (try clear hk); (try clear hi)))
                                go_roundg k4
                                case measure => have := HJ4.out; have := HJ25.out; have := HJ34.out; have := HK4.out; omega
                                case rel => exact ⟨(wrap64 (x13_4 + 1)), (by first | rfl | (simp; done) | (simp [*]; done)), H', ⟨by have := HJ4.out; have := HJ25.out; have := HJ34.out; have := HK4.out; omega⟩, ⟨by (with_reducible repeat (first | refine blk_drewN ?_ _ | refine blk_drew ?_ | refine blk_alloc ?_ _)); exact BK565.out⟩, ⟨by repeat (first | (with_reducible first | exact HB.out | apply below_alloc | apply pw_below_drewN | apply below_drew1 | refine below_set ?_ GE565.out) | exact HB.out)⟩⟩
                            · rw [if_neg c44] at H
                              have c44b0 : (t577 == 0) = false := beq_eq_false_iff_ne.mpr c44
                              have c44b1 : (t577 != 0) = true := bne_iff_ne.mpr c44
                              exact absurd (H.trans (congrArg some HT)) (by decide)
                          · rw [if_neg c42] at H
                            have c42b0 : decide (x13_4 < (ji41)) = false := decide_eq_false c42
                            clear c42
                            by_cases c52 : a2 = 1
                            · rw [if_pos c52] at H
                              have c52b0 : (a2 == 1) = true := beq_iff_eq.mpr c52
                              have c52b1 : (a2 != 1) = false := bne_eq_false_iff_eq.mpr c52
                              clear c52
                              by_cases c53 : t570 > a1
                              · rw [if_pos c53] at H
                                have c53b0 : decide (a1 < t570) = true := decide_eq_true c53
                                clear c53
                                replace H := Option.bind_eq_some_iff.mp H
                                obtain ⟨t578, A540, H⟩ := H
                                replace H : (some t578) = some r := H
                                have A54 := Aside0.mk A540
                                clear A540
                                obtain rfl := Option.some.inj H
                                go_wp2_with (first | (go_at_call 32; (with_reducible refine (tenorlaw6_awake.calls  t578 _ A54.out).mono ?_); rintro e w55 ⟨rfl, hb⟩; have n0_ := Aside0.mk (blk_below (g := gb565) (o := .cells #[.int .i64 a0_0, .slice A0_1 l0_1.length c0_1] 24 (0, 0)) (by (with_reducible repeat (first | refine blk_drewN ?_ _ | refine blk_drew ?_ | refine blk_alloc ?_ _)); exact BK565.out) hb); have n1_ := Aside0.mk (below_step (by repeat (first | (with_reducible first | exact HB.out | apply below_alloc | apply pw_below_drewN | apply below_drew1 | refine below_set ?_ GE565.out) | exact HB.out)) hb); clear BK565; clear HB; have BK565 := n0_; have HB := n1_; clear n0_ n1_; (try clear hb); (try clear hb2); (try clear hk); (try clear hi)))
                                go_ret
                                exact ⟨by first | rfl | (simp [errW_none, errW_some] <;> rfl) | (simp only [← hji40, ← hji41]; first | rfl | (simp [errW_none, errW_some] <;> rfl)) | (simp [*, errW_none, errW_some] <;> rfl), by repeat (first | (with_reducible first | exact HB.out | apply below_alloc | apply pw_below_drewN | apply below_drew1 | refine below_set ?_ GE565.out) | exact HB.out)⟩
                              · rw [if_neg c53] at H
                                have c53b0 : decide (a1 < t570) = false := decide_eq_false c53
                                clear c53
                                exact absurd (H.trans (congrArg some HT)) (by decide)
                            · rw [if_neg c52] at H
                              have c52b0 : (a2 == 1) = false := beq_eq_false_iff_ne.mpr c52
                              have c52b1 : (a2 != 1) = true := bne_iff_ne.mpr c52
                              by_cases c56 : a2 = 2
                              · rw [if_pos c56] at H
                                have c56b0 : (a2 == 2) = true := beq_iff_eq.mpr c56
                                have c56b1 : (a2 != 2) = false := bne_eq_false_iff_eq.mpr c56
                                clear c56
                                by_cases c57 : t570 < a1
                                · rw [if_pos c57] at H
                                  have c57b0 : decide (t570 < a1) = true := decide_eq_true c57
                                  clear c57
                                  replace H := Option.bind_eq_some_iff.mp H
                                  obtain ⟨t579, A580, H⟩ := H
                                  replace H : (some t579) = some r := H
                                  have A58 := Aside0.mk A580
                                  clear A580
                                  obtain rfl := Option.some.inj H
                                  go_wp2_with (first | (go_at_call 32; (with_reducible refine (tenorlaw6_awake.calls  t579 _ A58.out).mono ?_); rintro e w59 ⟨rfl, hb⟩; have n0_ := Aside0.mk (blk_below (g := gb565) (o := .cells #[.int .i64 a0_0, .slice A0_1 l0_1.length c0_1] 24 (0, 0)) (by (with_reducible repeat (first | refine blk_drewN ?_ _ | refine blk_drew ?_ | refine blk_alloc ?_ _)); exact BK565.out) hb); have n1_ := Aside0.mk (below_step (by repeat (first | (with_reducible first | exact HB.out | apply below_alloc | apply pw_below_drewN | apply below_drew1 | refine below_set ?_ GE565.out) | exact HB.out)) hb); clear BK565; clear HB; have BK565 := n0_; have HB := n1_; clear n0_ n1_; (try clear hb); (try clear hb2); (try clear hk); (try clear hi)))
                                  go_ret
                                  exact ⟨by first | rfl | (simp [errW_none, errW_some] <;> rfl) | (simp only [← hji40, ← hji41]; first | rfl | (simp [errW_none, errW_some] <;> rfl)) | (simp [*, errW_none, errW_some] <;> rfl), by repeat (first | (with_reducible first | exact HB.out | apply below_alloc | apply pw_below_drewN | apply below_drew1 | refine below_set ?_ GE565.out) | exact HB.out)⟩
                                · rw [if_neg c57] at H
                                  have c57b0 : decide (t570 < a1) = false := decide_eq_false c57
                                  clear c57
                                  exact absurd (H.trans (congrArg some HT)) (by decide)
                              · rw [if_neg c56] at H
                                have c56b0 : (a2 == 2) = false := beq_eq_false_iff_ne.mpr c56
                                have c56b1 : (a2 != 2) = true := bne_iff_ne.mpr c56
                                replace H := Option.bind_eq_some_iff.mp H
                                obtain ⟨t580, A600, H⟩ := H
                                replace H : (some t580) = some r := H
                                have A60 := Aside0.mk A600
                                clear A600
                                obtain rfl := Option.some.inj H
                                go_wp2_with (first | (go_at_call 32; (with_reducible refine (tenorlaw6_awake.calls  t580 _ A60.out).mono ?_); rintro e w61 ⟨rfl, hb⟩; have n0_ := Aside0.mk (blk_below (g := gb565) (o := .cells #[.int .i64 a0_0, .slice A0_1 l0_1.length c0_1] 24 (0, 0)) (by (with_reducible repeat (first | refine blk_drewN ?_ _ | refine blk_drew ?_ | refine blk_alloc ?_ _)); exact BK565.out) hb); have n1_ := Aside0.mk (below_step (by repeat (first | (with_reducible first | exact HB.out | apply below_alloc | apply pw_below_drewN | apply below_drew1 | refine below_set ?_ GE565.out) | exact HB.out)) hb); clear BK565; clear HB; have BK565 := n0_; have HB := n1_; clear n0_ n1_; (try clear hb); (try clear hb2); (try clear hk); (try clear hi)))
                                go_ret
                                exact ⟨by first | rfl | (simp [errW_none, errW_some] <;> rfl) | (simp only [← hji40, ← hji41]; first | rfl | (simp [errW_none, errW_some] <;> rfl)) | (simp [*, errW_none, errW_some] <;> rfl), by repeat (first | (with_reducible first | exact HB.out | apply below_alloc | apply pw_below_drewN | apply below_drew1 | refine below_set ?_ GE565.out) | exact HB.out)⟩
        · rw [if_neg c25] at H
          have c25b0 : (t571 == 0) = false := beq_eq_false_iff_ne.mpr c25
          have c25b1 : (t571 != 0) = true := bne_iff_ne.mpr c25
          by_cases c62 : t571 = 51
          · rw [if_pos c62] at H
            have c62b0 : (t571 == 51) = true := beq_iff_eq.mpr c62
            have c62b1 : (t571 != 51) = false := bne_eq_false_iff_eq.mpr c62
            clear c62
            by_cases c63 : t566 = true
            · subst c63
              have H1 : (some false) = some r := by rw [if_pos rfl] at H; exact H
              clear H
              have H := H1
              clear H1
              exact absurd (H.trans (congrArg some HT)) (by decide)
            · replace c63 := Bool.eq_false_iff.mpr c63
              subst c63
              have H1 : (if a2 = 0 then (some false) else ((tenorlaw6_awake.f).bind fun t572 => (some t572))) = some r := by rw [if_neg (show ¬ (false = true) by decide)] at H; exact H
              clear H
              have H := H1
              clear H1
              by_cases c66 : a2 = 0
              · rw [if_pos c66] at H
                have c66b0 : (a2 == 0) = true := beq_iff_eq.mpr c66
                have c66b1 : (a2 != 0) = false := bne_eq_false_iff_eq.mpr c66
                clear c66
                exact absurd (H.trans (congrArg some HT)) (by decide)
              · rw [if_neg c66] at H
                have c66b0 : (a2 == 0) = false := beq_eq_false_iff_ne.mpr c66
                have c66b1 : (a2 != 0) = true := bne_iff_ne.mpr c66
                replace H := Option.bind_eq_some_iff.mp H
                obtain ⟨t572, A690, H⟩ := H
                replace H : (some t572) = some r := H
                have A69 := Aside0.mk A690
                clear A690
                obtain rfl := Option.some.inj H
                have hcz70_0 : wc.cell? ⟨gb565, 0, none⟩ = some (.int .i64 a0_0) := (blk_cell BK565.out 0).trans rfl
                have hcz70_1 : wc.cell? ⟨gb565, 1, none⟩ = some (.slice A0_1 l0_1.length c0_1) := (blk_cell BK565.out 1).trans rfl
                have hfz70_0 := blk_frozen BK565.out 0
                have hfz70_1 := blk_frozen BK565.out 1
                go_wp2_with (first | ((with_reducible refine gate_callee (f := 38) rfl ?_); refine goesL_ (some 42) rfl rfl Try.func38 (by kernel_rfl) rfl #[.agg #[.int .i64 a0_0, .slice A0_1 l0_1.length c0_1], .int .i64 a1, .int .i64 a2] rfl (by (try simp only [List.map_toArray, List.map_cons, List.map_nil]); first | done | rfl | (simp only [List.length_drop, List.length_take]; rfl)) ?_; (with_reducible refine (cal_Adjust.calls a0_0 _ _ l0_1 a1 a2 t570 t571 _ ?side1 ?side2 A24.out).mono ?_); (case side1 => repeat (first | exact (Kd.C_below HR0_1.out HB.out) | (with_reducible refine Kd.C_alloc ?_ _) | (with_reducible refine Kd.C_drewN ?_ _) | (with_reducible refine Kd.C_drew ?_))); (case side2 => exact HC0_1.out); rintro e w71 ⟨rfl, hb⟩; refine ⟨_, rfl, ?_⟩; have n0_ := Aside0.mk (blk_below (g := gb565) (o := .cells #[.int .i64 a0_0, .slice A0_1 l0_1.length c0_1] 24 (0, 0)) (by (with_reducible repeat (first | refine blk_drewN ?_ _ | refine blk_drew ?_ | refine blk_alloc ?_ _)); exact BK565.out) hb); have n1_ := Aside0.mk (below_step (by repeat (first | (with_reducible first | exact HB.out | apply below_alloc | apply pw_below_drewN | apply below_drew1 | refine below_set ?_ GE565.out) | exact HB.out)) hb); clear BK565; clear HB; have BK565 := n0_; have HB := n1_; clear n0_ n1_; (try clear hb); (try clear hb2); (try clear hk); (try clear hi)) | (go_at_call 32; (with_reducible refine (tenorlaw6_awake.calls  t572 _ A69.out).mono ?_); rintro e w72 ⟨rfl, hb⟩; have n0_ := Aside0.mk (blk_below (g := gb565) (o := .cells #[.int .i64 a0_0, .slice A0_1 l0_1.length c0_1] 24 (0, 0)) (by (with_reducible repeat (first | refine blk_drewN ?_ _ | refine blk_drew ?_ | refine blk_alloc ?_ _)); exact BK565.out) hb); have n1_ := Aside0.mk (below_step (by repeat (first | (with_reducible first | exact HB.out | apply below_alloc | apply pw_below_drewN | apply below_drew1 | refine below_set ?_ GE565.out) | exact HB.out)) hb); clear BK565; clear HB; have BK565 := n0_; have HB := n1_; clear n0_ n1_; (try clear hb); (try clear hb2); (try clear hk); (try clear hi)))
                go_ret
                exact ⟨by first | rfl | (simp [errW_none, errW_some] <;> rfl) | (simp [*, errW_none, errW_some] <;> rfl), by repeat (first | (with_reducible first | exact HB.out | apply below_alloc | apply pw_below_drewN | apply below_drew1 | refine below_set ?_ GE565.out) | exact HB.out)⟩
          · rw [if_neg c62] at H
            have c62b0 : (t571 == 51) = false := beq_eq_false_iff_ne.mpr c62
            have c62b1 : (t571 != 51) = true := bne_iff_ne.mpr c62
            exact absurd (H.trans (congrArg some HT)) (by decide)

end Go.Proofs.Ytoncignjcgjhhaa.Q
