/- Contracts of functions of the seat's program: each Go function's Lean function and its walk, written by a program of this session over the kit's print. Not trusted: Lean checks it. -/
import Derived.Test.YtoncignjcgjhhaaZGA
import Derived.Test.YtoncignjcgjhhaaZGF
import Derived.Test.YtoncignjcgjhhaaZGK
import Derived.Test.YtoncignjcgjhhaaZGL
import Derived.Test.YtoncignjcgjhhaaZGM
import Derived.Test.YtoncignjcgjhhaaZV
set_option linter.unusedVariables false
set_option linter.unusedSimpArgs false
namespace Go.Proofs.Ytoncignjcgjhhaa.Q
open Go.RowKit Go.Proofs.YtoncignjcgjhhaaW.PrintWords Go.Proofs.YtoncignjcgjhhaaW.PrintLast Go.Proofs.YtoncignjcgjhhaaW.PrintMore
attribute [local go_sem] max2_int min2_int max_two min_two max_three min_three max_four min_four   -- for this text's walks alone
set_option linter.unusedVariables false
set_option linter.unusedSimpArgs false

/-! ### tenorlaw6_CalSteps: function 13 -/
mutual
def tenorlaw6_CalSteps.j0 : Nat → Int → Int → Int → Bool → Int → List (S63) → Option (Bool)
  | 0, _, _, _, _, _, _ => none
  | k + 1, x1, x2, x3, x41, x582000, x582001 => if x41 = true then ((tenorlaw6_awake.f).bind fun t583 => (some t583)) else ((cal_Add.f x582000 x582001 x1 x2).bind fun bt584 => ((cal_Add.f x582000 x582001 x1 (wrap64 (x2 + x3))).bind fun bt586 => (if bt584.2 = 0 then (tenorlaw6_CalSteps.j1 k x1 x3 bt584.1 bt586.1 bt586.2 (bt586.2 != 0) x582000 x582001) else (tenorlaw6_CalSteps.j1 k x1 x3 bt584.1 bt586.1 bt586.2 true x582000 x582001))))
def tenorlaw6_CalSteps.j1 : Nat → Int → Int → Int → Int → Int → Bool → Int → List (S63) → Option (Bool)
  | 0, _, _, _, _, _, _, _, _ => none
  | k + 1, x1, x3, x9, x11, x12, x64, x582000, x582001 => if x64 = true then (if x12 = 0 then (some false) else ((tenorlaw6_awake.f).bind fun t588 => (some t588))) else ((cal_Add.f x582000 x582001 x9 x3).bind fun bt589 => ((cal_Count.f x582000 x582001 x9 x11).bind fun bt591 => ((cal_Count.f x582000 x582001 x1 x9).bind fun bt593 => ((cal_Count.f x582000 x582001 x1 x11).bind fun bt595 => ((cal_Count.f x582000 x582001 x11 x1).bind fun bt597 => (if bt589.2 = 0 then (if bt591.2 = 0 then (if bt593.2 = 0 then (if bt595.2 = 0 then (if bt597.2 = 0 then (if bt589.1 = x11 then (if bt591.1 = x3 then (if (wrap64 (bt593.1 + bt591.1)) = bt595.1 then (if bt597.1 = (wrap64 (-bt595.1)) then ((tenorlaw6_awake.f).bind fun t599 => (some t599)) else (some false)) else (some false)) else (some false)) else (some false)) else (some false)) else (some false)) else (some false)) else (some false)) else (some false)))))))
end
def tenorlaw6_CalSteps.f (k : Nat) (a0_0 : Int) (l0_1 : List (S63)) (a1 : Int) (a2 : Int) (a3 : Int) : Option (Bool) := (tenorlaw6_Few.f a0_0 l0_1).bind fun t582 => (if t582 = true then (if a2 < 1 then (tenorlaw6_CalSteps.j0 k a1 a2 a3 true a0_0 l0_1) else (if a2 > 200 then (tenorlaw6_CalSteps.j0 k a1 a2 a3 true a0_0 l0_1) else (if a3 < 1 then (tenorlaw6_CalSteps.j0 k a1 a2 a3 true a0_0 l0_1) else (tenorlaw6_CalSteps.j0 k a1 a2 a3 (decide (a3 > 200)) a0_0 l0_1)))) else (tenorlaw6_CalSteps.j0 k a1 a2 a3 true a0_0 l0_1))
theorem tenorlaw6_CalSteps.mono_l : ∀ k, (∀ y0 y1 y2 y3 y4 y5, LeO (tenorlaw6_CalSteps.j0 k y0 y1 y2 y3 y4 y5) (tenorlaw6_CalSteps.j0 (k + 1) y0 y1 y2 y3 y4 y5)) ∧ (∀ y0 y1 y2 y3 y4 y5 y6 y7, LeO (tenorlaw6_CalSteps.j1 k y0 y1 y2 y3 y4 y5 y6 y7) (tenorlaw6_CalSteps.j1 (k + 1) y0 y1 y2 y3 y4 y5 y6 y7))
  | 0 => ⟨fun _ _ _ _ _ _ r h => by simp [tenorlaw6_CalSteps.j0] at h, fun _ _ _ _ _ _ _ _ r h => by simp [tenorlaw6_CalSteps.j1] at h⟩
  | k + 1 => by
    obtain ⟨ih0, ih1⟩ := tenorlaw6_CalSteps.mono_l k
    refine ⟨?_, ?_⟩
    · intro y0 y1 y2 y3 y4 y5
      unfold tenorlaw6_CalSteps.j0
      repeat' first
      | (with_reducible exact ih0 _ _ _ _ _ _)
      | (with_reducible exact ih1 _ _ _ _ _ _ _ _)
      | (with_reducible exact LeO.refl _)
      | (with_reducible exact LeO.none _)
      | (with_reducible refine LeO.ite ?_ ?_)
      | (with_reducible refine LeO.bind ?_ (fun _ => ?_))
      | exact ih0 _ _ _ _ _ _
      | exact ih1 _ _ _ _ _ _ _ _
      | exact LeO.none _
      | refine LeO.ite ?_ ?_
      | refine LeO.bind ?_ (fun _ => ?_)
    · intro y0 y1 y2 y3 y4 y5 y6 y7
      unfold tenorlaw6_CalSteps.j1
      repeat' first
      | (with_reducible exact ih0 _ _ _ _ _ _)
      | (with_reducible exact ih1 _ _ _ _ _ _ _ _)
      | (with_reducible exact LeO.refl _)
      | (with_reducible exact LeO.none _)
      | (with_reducible refine LeO.ite ?_ ?_)
      | (with_reducible refine LeO.bind ?_ (fun _ => ?_))
      | exact ih0 _ _ _ _ _ _
      | exact ih1 _ _ _ _ _ _ _ _
      | exact LeO.none _
      | refine LeO.ite ?_ ?_
      | refine LeO.bind ?_ (fun _ => ?_)
theorem tenorlaw6_CalSteps.mono : ∀ a0 a1 a2 a3 a4 k, LeO (tenorlaw6_CalSteps.f k a0 a1 a2 a3 a4) (tenorlaw6_CalSteps.f (k + 1) a0 a1 a2 a3 a4) := by
  intro a0 a1 a2 a3 a4 k
  obtain ⟨ih0, ih1⟩ := tenorlaw6_CalSteps.mono_l k
  unfold tenorlaw6_CalSteps.f
  repeat' first
      | (with_reducible exact ih0 _ _ _ _ _ _)
      | (with_reducible exact ih1 _ _ _ _ _ _ _ _)
      | (with_reducible exact LeO.refl _)
      | (with_reducible exact LeO.none _)
      | (with_reducible refine LeO.ite ?_ ?_)
      | (with_reducible refine LeO.bind ?_ (fun _ => ?_))
      | exact ih0 _ _ _ _ _ _
      | exact ih1 _ _ _ _ _ _ _ _
      | exact LeO.none _
      | refine LeO.ite ?_ ?_
      | refine LeO.bind ?_ (fun _ => ?_)
set_option maxHeartbeats 8000000 in
set_option maxRecDepth 100000 in
theorem tenorlaw6_CalSteps.calls (k : Nat) (a0_0 : Int) (A0_1 : Option Addr) (c0_1 : Nat) (l0_1 : List (S63)) (a1 : Int) (a2 : Int) (a3 : Int) (r : Bool) (w : World) (hr0_1 : Kd.C k63 w A0_1 l0_1.length l0_1) (hc0_1 : l0_1.length ≤ c0_1) (h : tenorlaw6_CalSteps.f k a0_0 l0_1 a1 a2 a3 = some r) (HT : r = true) :
    Calls Try.prog 13 #[.agg #[.int .i64 a0_0, .slice A0_1 l0_1.length c0_1], .int .i64 a1, .int .i64 a2, .int .i64 a3] w fun e w' => e = .returned (.bool r) ∧ Below w.heap.size w w' := by
  have hu24 := Try.underlying24
  have HR0_1 := Aside0.mk hr0_1
  have HC0_1 := Aside0.mk hc0_1
  clear hr0_1 hc0_1
  have HB := Aside0.mk (Below.refl w.heap.size w)
  have H : ((tenorlaw6_Few.f a0_0 l0_1).bind fun t582 => (if t582 = true then (if a2 < 1 then (tenorlaw6_CalSteps.j0 k a1 a2 a3 true a0_0 l0_1) else (if a2 > 200 then (tenorlaw6_CalSteps.j0 k a1 a2 a3 true a0_0 l0_1) else (if a3 < 1 then (tenorlaw6_CalSteps.j0 k a1 a2 a3 true a0_0 l0_1) else (tenorlaw6_CalSteps.j0 k a1 a2 a3 (decide (a3 > 200)) a0_0 l0_1)))) else (tenorlaw6_CalSteps.j0 k a1 a2 a3 true a0_0 l0_1))) = some r := h
  clear h
  have HC5 := Aside0.mk H
  clear H
  go_enter Try.func13, Try.ntmps13
  go_upto_region 1 with (first | ((with_reducible refine gate_dst (N := 4) rfl ?_); refine box_event ?hg (N := 4) ?hd (cs := #[.int .i64 a0_0, .slice A0_1 l0_1.length c0_1]) (t := 24) ?hr ?_; (case hd => rfl); (case hg => rfl); (case hr => first | (go_simp; done) | (go_simp; rfl)); intro gb581 hg w6 hbox hb; have n0_ := Aside0.mk (below_step (by repeat (first | (with_reducible first | exact HB.out | apply below_alloc | apply pw_below_drewN | apply below_drew1) | exact HB.out)) hb); have n1_ := Aside0.mk (hbox); have n2_ := Aside0.mk ((by rw [hg]; exact (below_size (by repeat (first | (with_reducible first | exact HB.out | apply below_alloc | apply pw_below_drewN | apply below_drew1) | exact HB.out))) : w.heap.size ≤ gb581)); have n3_ := Aside0.mk ((by rw [hg]; exact (below_size (by repeat (first | (with_reducible first | exact HB.out | apply below_alloc | apply pw_below_drewN | apply below_drew1) | exact HB.out))) : w.heap.size ≤ gb581)); clear HB; have HB := n0_; have BK581 := n1_; have GW581 := n2_; have GE581 := n3_; clear n0_ n1_ n2_ n3_; clear hb hbox hg))
  (try simp only [Act.put, List.setIfInBounds_toArray, List.set_cons_zero, List.set_cons_succ])
  go_cut [41] (fun v41 wc => ∃ (kq : Nat) (x41_4 : Bool), v41 = .bool x41_4 ∧ Aside0 (tenorlaw6_CalSteps.j0 kq a1 a2 a3 x41_4 a0_0 l0_1 = some r) ∧ Aside0 (kq ≤ k) ∧ Aside0 (wc.heap[gb581]? = some (.cells #[.int .i64 a0_0, (.slice A0_1 l0_1.length c0_1)] 24 (0, 0))) ∧ Aside0 (Below w.heap.size w wc))
  case first =>
    have H := HC5.out
    clear HC5
    replace H := Option.bind_eq_some_iff.mp H
    obtain ⟨t582, A70, H⟩ := H
    replace H : (if t582 = true then (if a2 < 1 then (tenorlaw6_CalSteps.j0 k a1 a2 a3 true a0_0 l0_1) else (if a2 > 200 then (tenorlaw6_CalSteps.j0 k a1 a2 a3 true a0_0 l0_1) else (if a3 < 1 then (tenorlaw6_CalSteps.j0 k a1 a2 a3 true a0_0 l0_1) else (tenorlaw6_CalSteps.j0 k a1 a2 a3 (decide (a3 > 200)) a0_0 l0_1)))) else (tenorlaw6_CalSteps.j0 k a1 a2 a3 true a0_0 l0_1)) = some r := H
    have A7 := Aside0.mk A70
    clear A70
    by_cases c8 : t582 = true
    · subst c8
      have H1 : (if a2 < 1 then (tenorlaw6_CalSteps.j0 k a1 a2 a3 true a0_0 l0_1) else (if a2 > 200 then (tenorlaw6_CalSteps.j0 k a1 a2 a3 true a0_0 l0_1) else (if a3 < 1 then (tenorlaw6_CalSteps.j0 k a1 a2 a3 true a0_0 l0_1) else (tenorlaw6_CalSteps.j0 k a1 a2 a3 (decide (a3 > 200)) a0_0 l0_1)))) = some r := by rw [if_pos rfl] at H; exact H
      clear H
      have H := H1
      clear H1
      by_cases c9 : a2 < 1
      · rw [if_pos c9] at H
        have c9b0 : decide (a2 < 1) = true := decide_eq_true c9
        clear c9
        (first | rw [c9b0] | (simp only [i64_w, i32_w]; rw [c9b0]) | skip)
        have H' := Aside0.mk H
        clear H
        have hcz10_0 : w6.cell? ⟨gb581, 0, none⟩ = some (.int .i64 a0_0) := (blk_cell BK581.out 0).trans rfl
        have hcz10_1 : w6.cell? ⟨gb581, 1, none⟩ = some (.slice A0_1 l0_1.length c0_1) := (blk_cell BK581.out 1).trans rfl
        have hfz10_0 := blk_frozen BK581.out 0
        have hfz10_1 := blk_frozen BK581.out 1
        go_wp2_with (first | ((with_reducible refine gate_callee (f := 37) rfl ?_); refine goesL_ (some 24) rfl rfl Try.func37 (by kernel_rfl) rfl #[.agg #[.int .i64 a0_0, .slice A0_1 l0_1.length c0_1]] rfl (by (try simp only [List.map_toArray, List.map_cons, List.map_nil]); first | done | rfl | (simp only [List.length_drop, List.length_take]; rfl)) ?_; (with_reducible refine (tenorlaw6_Few.calls a0_0 _ _ l0_1 true _ ?side1 ?side2 A7.out).mono ?_); (case side1 => repeat (first | exact (Kd.C_below HR0_1.out HB.out) | (with_reducible refine Kd.C_alloc ?_ _) | (with_reducible refine Kd.C_drewN ?_ _) | (with_reducible refine Kd.C_drew ?_))); (case side2 => exact HC0_1.out); rintro e w11 ⟨rfl, hb⟩; refine ⟨_, rfl, ?_⟩; have n0_ := Aside0.mk (blk_below (g := gb581) (o := .cells #[.int .i64 a0_0, .slice A0_1 l0_1.length c0_1] 24 (0, 0)) (by (with_reducible repeat (first | refine blk_drewN ?_ _ | refine blk_drew ?_ | refine blk_alloc ?_ _)); exact BK581.out) hb); have n1_ := Aside0.mk (below_step (by repeat (first | (with_reducible first | exact HB.out | apply below_alloc | apply pw_below_drewN | apply below_drew1 | refine below_set ?_ GE581.out) | exact HB.out)) hb); clear BK581; clear HB; have BK581 := n0_; have HB := n1_; clear n0_ n1_; (try clear hb); (try clear hb2); (try clear hk); (try clear hi)))
        go_meet
        case rel => exact ⟨_, (true), (by first | rfl | (simp; done) | (simp [*]; done)), H', ⟨by first | omega | exact Nat.le_refl _⟩, ⟨by (with_reducible repeat (first | refine blk_drewN ?_ _ | refine blk_drew ?_ | refine blk_alloc ?_ _)); exact BK581.out⟩, ⟨by repeat (first | (with_reducible first | exact HB.out | apply below_alloc | apply pw_below_drewN | apply below_drew1 | refine below_set ?_ GE581.out) | exact HB.out)⟩⟩
      · rw [if_neg c9] at H
        have c9b0 : decide (a2 < 1) = false := decide_eq_false c9
        clear c9
        (first | rw [c9b0] | (simp only [i64_w, i32_w]; rw [c9b0]) | skip)
        by_cases c12 : a2 > 200
        · rw [if_pos c12] at H
          have c12b0 : decide (200 < a2) = true := decide_eq_true c12
          clear c12
          have H' := Aside0.mk H
          clear H
          have hcz13_0 : w6.cell? ⟨gb581, 0, none⟩ = some (.int .i64 a0_0) := (blk_cell BK581.out 0).trans rfl
          have hcz13_1 : w6.cell? ⟨gb581, 1, none⟩ = some (.slice A0_1 l0_1.length c0_1) := (blk_cell BK581.out 1).trans rfl
          have hfz13_0 := blk_frozen BK581.out 0
          have hfz13_1 := blk_frozen BK581.out 1
          go_wp2_with (first | ((with_reducible refine gate_callee (f := 37) rfl ?_); refine goesL_ (some 24) rfl rfl Try.func37 (by kernel_rfl) rfl #[.agg #[.int .i64 a0_0, .slice A0_1 l0_1.length c0_1]] rfl (by (try simp only [List.map_toArray, List.map_cons, List.map_nil]); first | done | rfl | (simp only [List.length_drop, List.length_take]; rfl)) ?_; (with_reducible refine (tenorlaw6_Few.calls a0_0 _ _ l0_1 true _ ?side1 ?side2 A7.out).mono ?_); (case side1 => repeat (first | exact (Kd.C_below HR0_1.out HB.out) | (with_reducible refine Kd.C_alloc ?_ _) | (with_reducible refine Kd.C_drewN ?_ _) | (with_reducible refine Kd.C_drew ?_))); (case side2 => exact HC0_1.out); rintro e w14 ⟨rfl, hb⟩; refine ⟨_, rfl, ?_⟩; have n0_ := Aside0.mk (blk_below (g := gb581) (o := .cells #[.int .i64 a0_0, .slice A0_1 l0_1.length c0_1] 24 (0, 0)) (by (with_reducible repeat (first | refine blk_drewN ?_ _ | refine blk_drew ?_ | refine blk_alloc ?_ _)); exact BK581.out) hb); have n1_ := Aside0.mk (below_step (by repeat (first | (with_reducible first | exact HB.out | apply below_alloc | apply pw_below_drewN | apply below_drew1 | refine below_set ?_ GE581.out) | exact HB.out)) hb); clear BK581; clear HB; have BK581 := n0_; have HB := n1_; clear n0_ n1_; (try clear hb); (try clear hb2); (try clear hk); (try clear hi)))
          go_meet
          case rel => exact ⟨_, (true), (by first | rfl | (simp; done) | (simp [*]; done)), H', ⟨by first | omega | exact Nat.le_refl _⟩, ⟨by (with_reducible repeat (first | refine blk_drewN ?_ _ | refine blk_drew ?_ | refine blk_alloc ?_ _)); exact BK581.out⟩, ⟨by repeat (first | (with_reducible first | exact HB.out | apply below_alloc | apply pw_below_drewN | apply below_drew1 | refine below_set ?_ GE581.out) | exact HB.out)⟩⟩
        · rw [if_neg c12] at H
          have c12b0 : decide (200 < a2) = false := decide_eq_false c12
          clear c12
          by_cases c15 : a3 < 1
          · rw [if_pos c15] at H
            have c15b0 : decide (a3 < 1) = true := decide_eq_true c15
            clear c15
            have H' := Aside0.mk H
            clear H
            have hcz16_0 : w6.cell? ⟨gb581, 0, none⟩ = some (.int .i64 a0_0) := (blk_cell BK581.out 0).trans rfl
            have hcz16_1 : w6.cell? ⟨gb581, 1, none⟩ = some (.slice A0_1 l0_1.length c0_1) := (blk_cell BK581.out 1).trans rfl
            have hfz16_0 := blk_frozen BK581.out 0
            have hfz16_1 := blk_frozen BK581.out 1
            go_wp2_with (first | ((with_reducible refine gate_callee (f := 37) rfl ?_); refine goesL_ (some 24) rfl rfl Try.func37 (by kernel_rfl) rfl #[.agg #[.int .i64 a0_0, .slice A0_1 l0_1.length c0_1]] rfl (by (try simp only [List.map_toArray, List.map_cons, List.map_nil]); first | done | rfl | (simp only [List.length_drop, List.length_take]; rfl)) ?_; (with_reducible refine (tenorlaw6_Few.calls a0_0 _ _ l0_1 true _ ?side1 ?side2 A7.out).mono ?_); (case side1 => repeat (first | exact (Kd.C_below HR0_1.out HB.out) | (with_reducible refine Kd.C_alloc ?_ _) | (with_reducible refine Kd.C_drewN ?_ _) | (with_reducible refine Kd.C_drew ?_))); (case side2 => exact HC0_1.out); rintro e w17 ⟨rfl, hb⟩; refine ⟨_, rfl, ?_⟩; have n0_ := Aside0.mk (blk_below (g := gb581) (o := .cells #[.int .i64 a0_0, .slice A0_1 l0_1.length c0_1] 24 (0, 0)) (by (with_reducible repeat (first | refine blk_drewN ?_ _ | refine blk_drew ?_ | refine blk_alloc ?_ _)); exact BK581.out) hb); have n1_ := Aside0.mk (below_step (by repeat (first | (with_reducible first | exact HB.out | apply below_alloc | apply pw_below_drewN | apply below_drew1 | refine below_set ?_ GE581.out) | exact HB.out)) hb); clear BK581; clear HB; have BK581 := n0_; have HB := n1_; clear n0_ n1_; (try clear hb); (try clear hb2); (try clear hk); (try clear hi)))
            go_meet
            case rel => exact ⟨_, (true), (by first | rfl | (simp; done) | (simp [*]; done)), H', ⟨by first | omega | exact Nat.le_refl _⟩, ⟨by (with_reducible repeat (first | refine blk_drewN ?_ _ | refine blk_drew ?_ | refine blk_alloc ?_ _)); exact BK581.out⟩, ⟨by repeat (first | (with_reducible first | exact HB.out | apply below_alloc | apply pw_below_drewN | apply below_drew1 | refine below_set ?_ GE581.out) | exact HB.out)⟩⟩
          · rw [if_neg c15] at H
            have c15b0 : decide (a3 < 1) = false := decide_eq_false c15
            clear c15
            have H' := Aside0.mk H
            clear H
            have hcz18_0 : w6.cell? ⟨gb581, 0, none⟩ = some (.int .i64 a0_0) := (blk_cell BK581.out 0).trans rfl
            have hcz18_1 : w6.cell? ⟨gb581, 1, none⟩ = some (.slice A0_1 l0_1.length c0_1) := (blk_cell BK581.out 1).trans rfl
            have hfz18_0 := blk_frozen BK581.out 0
            have hfz18_1 := blk_frozen BK581.out 1
            go_wp2_with (first | ((with_reducible refine gate_callee (f := 37) rfl ?_); refine goesL_ (some 24) rfl rfl Try.func37 (by kernel_rfl) rfl #[.agg #[.int .i64 a0_0, .slice A0_1 l0_1.length c0_1]] rfl (by (try simp only [List.map_toArray, List.map_cons, List.map_nil]); first | done | rfl | (simp only [List.length_drop, List.length_take]; rfl)) ?_; (with_reducible refine (tenorlaw6_Few.calls a0_0 _ _ l0_1 true _ ?side1 ?side2 A7.out).mono ?_); (case side1 => repeat (first | exact (Kd.C_below HR0_1.out HB.out) | (with_reducible refine Kd.C_alloc ?_ _) | (with_reducible refine Kd.C_drewN ?_ _) | (with_reducible refine Kd.C_drew ?_))); (case side2 => exact HC0_1.out); rintro e w19 ⟨rfl, hb⟩; refine ⟨_, rfl, ?_⟩; have n0_ := Aside0.mk (blk_below (g := gb581) (o := .cells #[.int .i64 a0_0, .slice A0_1 l0_1.length c0_1] 24 (0, 0)) (by (with_reducible repeat (first | refine blk_drewN ?_ _ | refine blk_drew ?_ | refine blk_alloc ?_ _)); exact BK581.out) hb); have n1_ := Aside0.mk (below_step (by repeat (first | (with_reducible first | exact HB.out | apply below_alloc | apply pw_below_drewN | apply below_drew1 | refine below_set ?_ GE581.out) | exact HB.out)) hb); clear BK581; clear HB; have BK581 := n0_; have HB := n1_; clear n0_ n1_; (try clear hb); (try clear hb2); (try clear hk); (try clear hi)))
            go_meet
            case rel => exact ⟨_, (decide (a3 > 200)), (by first | rfl | (simp; done) | (simp [*]; done)), H', ⟨by first | omega | exact Nat.le_refl _⟩, ⟨by (with_reducible repeat (first | refine blk_drewN ?_ _ | refine blk_drew ?_ | refine blk_alloc ?_ _)); exact BK581.out⟩, ⟨by repeat (first | (with_reducible first | exact HB.out | apply below_alloc | apply pw_below_drewN | apply below_drew1 | refine below_set ?_ GE581.out) | exact HB.out)⟩⟩
    · replace c8 := Bool.eq_false_iff.mpr c8
      subst c8
      have H1 : (tenorlaw6_CalSteps.j0 k a1 a2 a3 true a0_0 l0_1) = some r := by rw [if_neg (show ¬ (false = true) by decide)] at H; exact H
      clear H
      have H := H1
      clear H1
      have H' := Aside0.mk H
      clear H
      have hcz20_0 : w6.cell? ⟨gb581, 0, none⟩ = some (.int .i64 a0_0) := (blk_cell BK581.out 0).trans rfl
      have hcz20_1 : w6.cell? ⟨gb581, 1, none⟩ = some (.slice A0_1 l0_1.length c0_1) := (blk_cell BK581.out 1).trans rfl
      have hfz20_0 := blk_frozen BK581.out 0
      have hfz20_1 := blk_frozen BK581.out 1
      go_wp2_with (first | ((with_reducible refine gate_callee (f := 37) rfl ?_); refine goesL_ (some 24) rfl rfl Try.func37 (by kernel_rfl) rfl #[.agg #[.int .i64 a0_0, .slice A0_1 l0_1.length c0_1]] rfl (by (try simp only [List.map_toArray, List.map_cons, List.map_nil]); first | done | rfl | (simp only [List.length_drop, List.length_take]; rfl)) ?_; (with_reducible refine (tenorlaw6_Few.calls a0_0 _ _ l0_1 false _ ?side1 ?side2 A7.out).mono ?_); (case side1 => repeat (first | exact (Kd.C_below HR0_1.out HB.out) | (with_reducible refine Kd.C_alloc ?_ _) | (with_reducible refine Kd.C_drewN ?_ _) | (with_reducible refine Kd.C_drew ?_))); (case side2 => exact HC0_1.out); rintro e w21 ⟨rfl, hb⟩; refine ⟨_, rfl, ?_⟩; have n0_ := Aside0.mk (blk_below (g := gb581) (o := .cells #[.int .i64 a0_0, .slice A0_1 l0_1.length c0_1] 24 (0, 0)) (by (with_reducible repeat (first | refine blk_drewN ?_ _ | refine blk_drew ?_ | refine blk_alloc ?_ _)); exact BK581.out) hb); have n1_ := Aside0.mk (below_step (by repeat (first | (with_reducible first | exact HB.out | apply below_alloc | apply pw_below_drewN | apply below_drew1 | refine below_set ?_ GE581.out) | exact HB.out)) hb); clear BK581; clear HB; have BK581 := n0_; have HB := n1_; clear n0_ n1_; (try clear hb); (try clear hb2); (try clear hk); (try clear hi)))
      go_meet
      case rel => exact ⟨_, (true), (by first | rfl | (simp; done) | (simp [*]; done)), H', ⟨by first | omega | exact Nat.le_refl _⟩, ⟨by (with_reducible repeat (first | refine blk_drewN ?_ _ | refine blk_drew ?_ | refine blk_alloc ?_ _)); exact BK581.out⟩, ⟨by repeat (first | (with_reducible first | exact HB.out | apply below_alloc | apply pw_below_drewN | apply below_drew1 | refine below_set ?_ GE581.out) | exact HB.out)⟩⟩
  case rest =>
    clear HC5
    try clear c1
    try clear p2
    try clear c3
    try clear c8
    try clear c9
    try clear c9b0
    try clear c12
    try clear c12b0
    try clear c13
    try clear c15
    try clear c15b0
    try clear hcz10_0
    try clear hcz10_1
    try clear hcz13_0
    try clear hcz13_1
    try clear hcz16_0
    try clear hcz16_1
    try clear hcz18_0
    try clear hcz18_1
    try clear hcz20_0
    try clear hcz20_1
    try clear hfz10_0
    try clear hfz10_1
    try clear hfz13_0
    try clear hfz13_1
    try clear hfz16_0
    try clear hfz16_1
    try clear hfz18_0
    try clear hfz18_1
    try clear hfz20_0
    try clear hfz20_1
    obtain ⟨kq, x41_4, rfl, HA, HJ4, BK581, HB⟩ := hcut
    cases kq with
    | zero => exact absurd HA.out (by simp [tenorlaw6_CalSteps.j0])
    | succ kj4 =>
      have H := HA.out
      clear HA
      simp only [tenorlaw6_CalSteps.j0] at H
      by_cases c22 : x41_4 = true
      · subst c22
        have H1 : ((tenorlaw6_awake.f).bind fun t583 => (some t583)) = some r := by rw [if_pos rfl] at H; exact H
        clear H
        have H := H1
        clear H1
        replace H := Option.bind_eq_some_iff.mp H
        obtain ⟨t583, A230, H⟩ := H
        replace H : (some t583) = some r := H
        have A23 := Aside0.mk A230
        clear A230
        obtain rfl := Option.some.inj H
        go_wp2_with (first | ((with_reducible refine gate_callee (f := 32) rfl ?_); refine goesL_ (some 42) rfl rfl Try.func32 (by kernel_rfl) rfl #[] rfl (by (try simp only [List.map_toArray, List.map_cons, List.map_nil]); first | done | rfl | (simp only [List.length_drop, List.length_take]; rfl)) ?_; (with_reducible refine (tenorlaw6_awake.calls  t583 _ A23.out).mono ?_); rintro e w24 ⟨rfl, hb⟩; refine ⟨_, rfl, ?_⟩; have n0_ := Aside0.mk (blk_below (g := gb581) (o := .cells #[.int .i64 a0_0, .slice A0_1 l0_1.length c0_1] 24 (0, 0)) (by (with_reducible repeat (first | refine blk_drewN ?_ _ | refine blk_drew ?_ | refine blk_alloc ?_ _)); exact BK581.out) hb); have n1_ := Aside0.mk (below_step (by repeat (first | (with_reducible first | exact HB.out | apply below_alloc | apply pw_below_drewN | apply below_drew1 | refine below_set ?_ GE581.out) | exact HB.out)) hb); clear BK581; clear HB; have BK581 := n0_; have HB := n1_; clear n0_ n1_; (try clear hb); (try clear hb2); (try clear hk); (try clear hi)))
        go_ret
        exact ⟨by first | rfl | (simp [errW_none, errW_some] <;> rfl) | (simp [*, errW_none, errW_some] <;> rfl), by repeat (first | (with_reducible first | exact HB.out | apply below_alloc | apply pw_below_drewN | apply below_drew1 | refine below_set ?_ GE581.out) | exact HB.out)⟩
      · replace c22 := Bool.eq_false_iff.mpr c22
        subst c22
        have H1 : ((cal_Add.f a0_0 l0_1 a1 a2).bind fun bt584 => ((cal_Add.f a0_0 l0_1 a1 (wrap64 (a2 + a3))).bind fun bt586 => (if bt584.2 = 0 then (tenorlaw6_CalSteps.j1 kj4 a1 a3 bt584.1 bt586.1 bt586.2 (bt586.2 != 0) a0_0 l0_1) else (tenorlaw6_CalSteps.j1 kj4 a1 a3 bt584.1 bt586.1 bt586.2 true a0_0 l0_1)))) = some r := by rw [if_neg (show ¬ (false = true) by decide)] at H; exact H
        clear H
        have H := H1
        clear H1
        replace H := Option.bind_eq_some_iff.mp H
        obtain ⟨⟨t584, t585⟩, A250, H⟩ := H
        replace H : ((cal_Add.f a0_0 l0_1 a1 (wrap64 (a2 + a3))).bind fun bt586 => (if t585 = 0 then (tenorlaw6_CalSteps.j1 kj4 a1 a3 t584 bt586.1 bt586.2 (bt586.2 != 0) a0_0 l0_1) else (tenorlaw6_CalSteps.j1 kj4 a1 a3 t584 bt586.1 bt586.2 true a0_0 l0_1))) = some r := H
        have A25 := Aside0.mk A250
        clear A250
        replace H := Option.bind_eq_some_iff.mp H
        obtain ⟨⟨t586, t587⟩, A260, H⟩ := H
        replace H : (if t585 = 0 then (tenorlaw6_CalSteps.j1 kj4 a1 a3 t584 t586 t587 (t587 != 0) a0_0 l0_1) else (tenorlaw6_CalSteps.j1 kj4 a1 a3 t584 t586 t587 true a0_0 l0_1)) = some r := H
        have A26 := Aside0.mk A260
        clear A260
        have HC27 := Aside0.mk H
        clear H
        have hcz28_0 : wc.cell? ⟨gb581, 0, none⟩ = some (.int .i64 a0_0) := (blk_cell BK581.out 0).trans rfl
        have hcz28_1 : wc.cell? ⟨gb581, 1, none⟩ = some (.slice A0_1 l0_1.length c0_1) := (blk_cell BK581.out 1).trans rfl
        have hfz28_0 := blk_frozen BK581.out 0
        have hfz28_1 := blk_frozen BK581.out 1
        go_upto_region 5 with (first | ((with_reducible refine gate_callee (f := 40) rfl ?_); refine goesL_ (some 47) rfl rfl Try.func40 (by kernel_rfl) rfl #[.agg #[.int .i64 a0_0, .slice A0_1 l0_1.length c0_1], .int .i64 a1, .int .i64 a2] rfl (by (try simp only [List.map_toArray, List.map_cons, List.map_nil]); first | done | rfl | (simp only [List.length_drop, List.length_take]; rfl)) ?_; (with_reducible refine (cal_Add.calls a0_0 _ _ l0_1 a1 a2 t584 t585 _ ?side1 ?side2 A25.out).mono ?_); (case side1 => repeat (first | exact (Kd.C_below HR0_1.out HB.out) | (with_reducible refine Kd.C_alloc ?_ _) | (with_reducible refine Kd.C_drewN ?_ _) | (with_reducible refine Kd.C_drew ?_))); (case side2 => exact HC0_1.out); rintro e w29 ⟨rfl, hb⟩; refine ⟨_, rfl, ?_⟩; have n0_ := Aside0.mk (blk_below (g := gb581) (o := .cells #[.int .i64 a0_0, .slice A0_1 l0_1.length c0_1] 24 (0, 0)) (by (with_reducible repeat (first | refine blk_drewN ?_ _ | refine blk_drew ?_ | refine blk_alloc ?_ _)); exact BK581.out) hb); have n1_ := Aside0.mk (below_step (by repeat (first | (with_reducible first | exact HB.out | apply below_alloc | apply pw_below_drewN | apply below_drew1 | refine below_set ?_ GE581.out) | exact HB.out)) hb); clear BK581; clear HB; have BK581 := n0_; have HB := n1_; clear n0_ n1_; (try clear hb); (try clear hb2); (try clear hk); (try clear hi); have hcz30_0 : w29.cell? ⟨gb581, 0, none⟩ = some (.int .i64 a0_0) := (blk_cell BK581.out 0).trans rfl; have hcz30_1 : w29.cell? ⟨gb581, 1, none⟩ = some (.slice A0_1 l0_1.length c0_1) := (blk_cell BK581.out 1).trans rfl; have hfz30_0 := blk_frozen BK581.out 0; have hfz30_1 := blk_frozen BK581.out 1) | ((with_reducible refine gate_callee (f := 40) rfl ?_); refine goesL_ (some 56) rfl rfl Try.func40 (by kernel_rfl) rfl #[.agg #[.int .i64 a0_0, .slice A0_1 l0_1.length c0_1], .int .i64 a1, .int .i64 (wrap64 (a2 + a3))] rfl (by (try simp only [List.map_toArray, List.map_cons, List.map_nil]); first | done | rfl | (simp only [List.length_drop, List.length_take]; rfl)) ?_; (with_reducible refine (cal_Add.calls a0_0 _ _ l0_1 a1 (wrap64 (a2 + a3)) t586 t587 _ ?side1 ?side2 A26.out).mono ?_); (case side1 => repeat (first | exact (Kd.C_below HR0_1.out HB.out) | (with_reducible refine Kd.C_alloc ?_ _) | (with_reducible refine Kd.C_drewN ?_ _) | (with_reducible refine Kd.C_drew ?_))); (case side2 => exact HC0_1.out); rintro e w31 ⟨rfl, hb⟩; refine ⟨_, rfl, ?_⟩; have n0_ := Aside0.mk (blk_below (g := gb581) (o := .cells #[.int .i64 a0_0, .slice A0_1 l0_1.length c0_1] 24 (0, 0)) (by (with_reducible repeat (first | refine blk_drewN ?_ _ | refine blk_drew ?_ | refine blk_alloc ?_ _)); exact BK581.out) hb); have n1_ := Aside0.mk (below_step (by repeat (first | (with_reducible first | exact HB.out | apply below_alloc | apply pw_below_drewN | apply below_drew1 | refine below_set ?_ GE581.out) | exact HB.out)) hb); clear BK581; clear HB; have BK581 := n0_; have HB := n1_; clear n0_ n1_; (try clear hb); (try clear hb2); (try clear hk); (try clear hi)))
        (try simp only [Act.put, List.setIfInBounds_toArray, List.set_cons_zero, List.set_cons_succ])
        go_cut [64] (fun v64 wc => ∃ (kq : Nat) (x64_26 : Bool), v64 = .bool x64_26 ∧ Aside0 (tenorlaw6_CalSteps.j1 kq a1 a3 t584 t586 t587 x64_26 a0_0 l0_1 = some r) ∧ Aside0 (kq ≤ kj4) ∧ Aside0 (wc.heap[gb581]? = some (.cells #[.int .i64 a0_0, (.slice A0_1 l0_1.length c0_1)] 24 (0, 0))) ∧ Aside0 (Below w.heap.size w wc))
        case first =>
          have H := HC27.out
          clear HC27
          by_cases c32 : t585 = 0
          · rw [if_pos c32] at H
            have c32b0 : (t585 == 0) = true := beq_iff_eq.mpr c32
            have c32b1 : (t585 != 0) = false := bne_eq_false_iff_eq.mpr c32
            clear c32
            (first | rw [c32b0] | (simp only [i64_w, i32_w]; rw [c32b0]) | skip)
            have H' := Aside0.mk H
            clear H
            go_wp2
            go_meet
            case rel => exact ⟨_, ((t587 != 0)), (by first | rfl | (simp; done) | (simp [*]; done)), H', ⟨by have := HJ4.out; first | omega | exact Nat.le_refl _⟩, ⟨by (with_reducible repeat (first | refine blk_drewN ?_ _ | refine blk_drew ?_ | refine blk_alloc ?_ _)); exact BK581.out⟩, ⟨by repeat (first | (with_reducible first | exact HB.out | apply below_alloc | apply pw_below_drewN | apply below_drew1 | refine below_set ?_ GE581.out) | exact HB.out)⟩⟩
          · rw [if_neg c32] at H
            have c32b0 : (t585 == 0) = false := beq_eq_false_iff_ne.mpr c32
            have c32b1 : (t585 != 0) = true := bne_iff_ne.mpr c32
            (first | rw [c32b0] | (simp only [i64_w, i32_w]; rw [c32b0]) | skip)
            have H' := Aside0.mk H
            clear H
            go_wp2
            go_meet
            case rel => exact ⟨_, (true), (by first | rfl | (simp; done) | (simp [*]; done)), H', ⟨by have := HJ4.out; first | omega | exact Nat.le_refl _⟩, ⟨by (with_reducible repeat (first | refine blk_drewN ?_ _ | refine blk_drew ?_ | refine blk_alloc ?_ _)); exact BK581.out⟩, ⟨by repeat (first | (with_reducible first | exact HB.out | apply below_alloc | apply pw_below_drewN | apply below_drew1 | refine below_set ?_ GE581.out) | exact HB.out)⟩⟩
        case rest =>
          clear HC27
          try clear c1
          try clear c2
          try clear p2
          try clear c3
          try clear c4
          try clear p6
          try clear c8
          try clear c9
          try clear c9b0
          try clear c12
          try clear c12b0
          try clear c13
          try clear c15
          try clear c15b0
          try clear c22
          try clear c32
          try clear c32b0
          try clear c32b1
          try clear hcz10_0
          try clear hcz10_1
          try clear hcz13_0
          try clear hcz13_1
          try clear hcz16_0
          try clear hcz16_1
          try clear hcz18_0
          try clear hcz18_1
          try clear hcz20_0
          try clear hcz20_1
          try clear hcz28_0
          try clear hcz28_1
          try clear hcz30_0
          try clear hcz30_1
          try clear hfz10_0
          try clear hfz10_1
          try clear hfz13_0
          try clear hfz13_1
          try clear hfz16_0
          try clear hfz16_1
          try clear hfz18_0
          try clear hfz18_1
          try clear hfz20_0
          try clear hfz20_1
          try clear hfz28_0
          try clear hfz28_1
          try clear hfz30_0
          try clear hfz30_1
          try clear p2
          obtain ⟨kq, x64_26, rfl, HA, HJ26, BK581, HB⟩ := hcut
          cases kq with
          | zero => exact absurd HA.out (by simp [tenorlaw6_CalSteps.j1])
          | succ kj26 =>
            have H := HA.out
            clear HA
            simp only [tenorlaw6_CalSteps.j1] at H
            by_cases c33 : x64_26 = true
            · subst c33
              have H1 : (if t587 = 0 then (some false) else ((tenorlaw6_awake.f).bind fun t588 => (some t588))) = some r := by rw [if_pos rfl] at H; exact H
              clear H
              have H := H1
              clear H1
              by_cases c34 : t587 = 0
              · rw [if_pos c34] at H
                have c34b0 : (t587 == 0) = true := beq_iff_eq.mpr c34
                have c34b1 : (t587 != 0) = false := bne_eq_false_iff_eq.mpr c34
                clear c34
                exact absurd (H.trans (congrArg some HT)) (by decide)
              · rw [if_neg c34] at H
                have c34b0 : (t587 == 0) = false := beq_eq_false_iff_ne.mpr c34
                have c34b1 : (t587 != 0) = true := bne_iff_ne.mpr c34
                replace H := Option.bind_eq_some_iff.mp H
                obtain ⟨t588, A350, H⟩ := H
                replace H : (some t588) = some r := H
                have A35 := Aside0.mk A350
                clear A350
                obtain rfl := Option.some.inj H
                go_wp2_with (first | (go_at_call 32; (with_reducible refine (tenorlaw6_awake.calls  t588 _ A35.out).mono ?_); rintro e w36 ⟨rfl, hb⟩; have n0_ := Aside0.mk (blk_below (g := gb581) (o := .cells #[.int .i64 a0_0, .slice A0_1 l0_1.length c0_1] 24 (0, 0)) (by (with_reducible repeat (first | refine blk_drewN ?_ _ | refine blk_drew ?_ | refine blk_alloc ?_ _)); exact BK581.out) hb); have n1_ := Aside0.mk (below_step (by repeat (first | (with_reducible first | exact HB.out | apply below_alloc | apply pw_below_drewN | apply below_drew1 | refine below_set ?_ GE581.out) | exact HB.out)) hb); clear BK581; clear HB; have BK581 := n0_; have HB := n1_; clear n0_ n1_; (try clear hb); (try clear hb2); (try clear hk); (try clear hi)))
                go_ret
                exact ⟨by first | rfl | (simp [errW_none, errW_some] <;> rfl) | (simp [*, errW_none, errW_some] <;> rfl), by repeat (first | (with_reducible first | exact HB.out | apply below_alloc | apply pw_below_drewN | apply below_drew1 | refine below_set ?_ GE581.out) | exact HB.out)⟩
            · replace c33 := Bool.eq_false_iff.mpr c33
              subst c33
              have H1 : ((cal_Add.f a0_0 l0_1 t584 a3).bind fun bt589 => ((cal_Count.f a0_0 l0_1 t584 t586).bind fun bt591 => ((cal_Count.f a0_0 l0_1 a1 t584).bind fun bt593 => ((cal_Count.f a0_0 l0_1 a1 t586).bind fun bt595 => ((cal_Count.f a0_0 l0_1 t586 a1).bind fun bt597 => (if bt589.2 = 0 then (if bt591.2 = 0 then (if bt593.2 = 0 then (if bt595.2 = 0 then (if bt597.2 = 0 then (if bt589.1 = t586 then (if bt591.1 = a3 then (if (wrap64 (bt593.1 + bt591.1)) = bt595.1 then (if bt597.1 = (wrap64 (-bt595.1)) then ((tenorlaw6_awake.f).bind fun t599 => (some t599)) else (some false)) else (some false)) else (some false)) else (some false)) else (some false)) else (some false)) else (some false)) else (some false)) else (some false))))))) = some r := by rw [if_neg (show ¬ (false = true) by decide)] at H; exact H
              clear H
              have H := H1
              clear H1
              replace H := Option.bind_eq_some_iff.mp H
              obtain ⟨⟨t589, t590⟩, A370, H⟩ := H
              replace H : ((cal_Count.f a0_0 l0_1 t584 t586).bind fun bt591 => ((cal_Count.f a0_0 l0_1 a1 t584).bind fun bt593 => ((cal_Count.f a0_0 l0_1 a1 t586).bind fun bt595 => ((cal_Count.f a0_0 l0_1 t586 a1).bind fun bt597 => (if t590 = 0 then (if bt591.2 = 0 then (if bt593.2 = 0 then (if bt595.2 = 0 then (if bt597.2 = 0 then (if t589 = t586 then (if bt591.1 = a3 then (if (wrap64 (bt593.1 + bt591.1)) = bt595.1 then (if bt597.1 = (wrap64 (-bt595.1)) then ((tenorlaw6_awake.f).bind fun t599 => (some t599)) else (some false)) else (some false)) else (some false)) else (some false)) else (some false)) else (some false)) else (some false)) else (some false)) else (some false)))))) = some r := H
              have A37 := Aside0.mk A370
              clear A370
              replace H := Option.bind_eq_some_iff.mp H
              obtain ⟨⟨t591, t592⟩, A380, H⟩ := H
              replace H : ((cal_Count.f a0_0 l0_1 a1 t584).bind fun bt593 => ((cal_Count.f a0_0 l0_1 a1 t586).bind fun bt595 => ((cal_Count.f a0_0 l0_1 t586 a1).bind fun bt597 => (if t590 = 0 then (if t592 = 0 then (if bt593.2 = 0 then (if bt595.2 = 0 then (if bt597.2 = 0 then (if t589 = t586 then (if t591 = a3 then (if (wrap64 (bt593.1 + t591)) = bt595.1 then (if bt597.1 = (wrap64 (-bt595.1)) then ((tenorlaw6_awake.f).bind fun t599 => (some t599)) else (some false)) else (some false)) else (some false)) else (some false)) else (some false)) else (some false)) else (some false)) else (some false)) else (some false))))) = some r := H
              have A38 := Aside0.mk A380
              clear A380
              replace H := Option.bind_eq_some_iff.mp H
              obtain ⟨⟨t593, t594⟩, A390, H⟩ := H
              replace H : ((cal_Count.f a0_0 l0_1 a1 t586).bind fun bt595 => ((cal_Count.f a0_0 l0_1 t586 a1).bind fun bt597 => (if t590 = 0 then (if t592 = 0 then (if t594 = 0 then (if bt595.2 = 0 then (if bt597.2 = 0 then (if t589 = t586 then (if t591 = a3 then (if (wrap64 (t593 + t591)) = bt595.1 then (if bt597.1 = (wrap64 (-bt595.1)) then ((tenorlaw6_awake.f).bind fun t599 => (some t599)) else (some false)) else (some false)) else (some false)) else (some false)) else (some false)) else (some false)) else (some false)) else (some false)) else (some false)))) = some r := H
              have A39 := Aside0.mk A390
              clear A390
              replace H := Option.bind_eq_some_iff.mp H
              obtain ⟨⟨t595, t596⟩, A400, H⟩ := H
              replace H : ((cal_Count.f a0_0 l0_1 t586 a1).bind fun bt597 => (if t590 = 0 then (if t592 = 0 then (if t594 = 0 then (if t596 = 0 then (if bt597.2 = 0 then (if t589 = t586 then (if t591 = a3 then (if (wrap64 (t593 + t591)) = t595 then (if bt597.1 = (wrap64 (-t595)) then ((tenorlaw6_awake.f).bind fun t599 => (some t599)) else (some false)) else (some false)) else (some false)) else (some false)) else (some false)) else (some false)) else (some false)) else (some false)) else (some false))) = some r := H
              have A40 := Aside0.mk A400
              clear A400
              replace H := Option.bind_eq_some_iff.mp H
              obtain ⟨⟨t597, t598⟩, A410, H⟩ := H
              replace H : (if t590 = 0 then (if t592 = 0 then (if t594 = 0 then (if t596 = 0 then (if t598 = 0 then (if t589 = t586 then (if t591 = a3 then (if (wrap64 (t593 + t591)) = t595 then (if t597 = (wrap64 (-t595)) then ((tenorlaw6_awake.f).bind fun t599 => (some t599)) else (some false)) else (some false)) else (some false)) else (some false)) else (some false)) else (some false)) else (some false)) else (some false)) else (some false)) = some r := H
              have A41 := Aside0.mk A410
              clear A410
              by_cases c42 : t590 = 0
              · rw [if_pos c42] at H
                have c42b0 : (t590 == 0) = true := beq_iff_eq.mpr c42
                have c42b1 : (t590 != 0) = false := bne_eq_false_iff_eq.mpr c42
                clear c42
                by_cases c43 : t592 = 0
                · rw [if_pos c43] at H
                  have c43b0 : (t592 == 0) = true := beq_iff_eq.mpr c43
                  have c43b1 : (t592 != 0) = false := bne_eq_false_iff_eq.mpr c43
                  clear c43
                  by_cases c44 : t594 = 0
                  · rw [if_pos c44] at H
                    have c44b0 : (t594 == 0) = true := beq_iff_eq.mpr c44
                    have c44b1 : (t594 != 0) = false := bne_eq_false_iff_eq.mpr c44
                    clear c44
                    by_cases c45 : t596 = 0
                    · rw [if_pos c45] at H
                      have c45b0 : (t596 == 0) = true := beq_iff_eq.mpr c45
                      have c45b1 : (t596 != 0) = false := bne_eq_false_iff_eq.mpr c45
                      clear c45
                      by_cases c46 : t598 = 0
                      · rw [if_pos c46] at H
                        have c46b0 : (t598 == 0) = true := beq_iff_eq.mpr c46
                        have c46b1 : (t598 != 0) = false := bne_eq_false_iff_eq.mpr c46
                        clear c46
                        by_cases c47 : t589 = t586
                        · rw [if_pos c47] at H
                          have c47b0 : (t589 == t586) = true := beq_iff_eq.mpr c47
                          have c47b1 : (t589 != t586) = false := bne_eq_false_iff_eq.mpr c47
                          clear c47
                          by_cases c48 : t591 = a3
                          · rw [if_pos c48] at H
                            have c48b0 : (t591 == a3) = true := beq_iff_eq.mpr c48
                            have c48b1 : (t591 != a3) = false := bne_eq_false_iff_eq.mpr c48
                            clear c48
                            by_cases c49 : (wrap64 (t593 + t591)) = t595
                            · rw [if_pos c49] at H
                              have c49b0 : ((wrap64 (t593 + t591)) == t595) = true := beq_iff_eq.mpr c49
                              have c49b1 : ((wrap64 (t593 + t591)) != t595) = false := bne_eq_false_iff_eq.mpr c49
                              clear c49
                              by_cases c50 : t597 = (wrap64 (-t595))
                              · rw [if_pos c50] at H
                                have c50b0 : (t597 == (wrap64 (-t595))) = true := beq_iff_eq.mpr c50
                                have c50b1 : (t597 != (wrap64 (-t595))) = false := bne_eq_false_iff_eq.mpr c50
                                clear c50
                                replace H := Option.bind_eq_some_iff.mp H
                                obtain ⟨t599, A510, H⟩ := H
                                replace H : (some t599) = some r := H
                                have A51 := Aside0.mk A510
                                clear A510
                                obtain rfl := Option.some.inj H
                                have hcz52_0 : wc.cell? ⟨gb581, 0, none⟩ = some (.int .i64 a0_0) := (blk_cell BK581.out 0).trans rfl
                                have hcz52_1 : wc.cell? ⟨gb581, 1, none⟩ = some (.slice A0_1 l0_1.length c0_1) := (blk_cell BK581.out 1).trans rfl
                                have hfz52_0 := blk_frozen BK581.out 0
                                have hfz52_1 := blk_frozen BK581.out 1
                                go_wp2_with (first | ((with_reducible refine gate_callee (f := 40) rfl ?_); refine goesL_ (some 74) rfl rfl Try.func40 (by kernel_rfl) rfl #[.agg #[.int .i64 a0_0, .slice A0_1 l0_1.length c0_1], .int .i64 t584, .int .i64 a3] rfl (by (try simp only [List.map_toArray, List.map_cons, List.map_nil]); first | done | rfl | (simp only [List.length_drop, List.length_take]; rfl)) ?_; (with_reducible refine (cal_Add.calls a0_0 _ _ l0_1 t584 a3 t589 t590 _ ?side1 ?side2 A37.out).mono ?_); (case side1 => repeat (first | exact (Kd.C_below HR0_1.out HB.out) | (with_reducible refine Kd.C_alloc ?_ _) | (with_reducible refine Kd.C_drewN ?_ _) | (with_reducible refine Kd.C_drew ?_))); (case side2 => exact HC0_1.out); rintro e w53 ⟨rfl, hb⟩; refine ⟨_, rfl, ?_⟩; have n0_ := Aside0.mk (blk_below (g := gb581) (o := .cells #[.int .i64 a0_0, .slice A0_1 l0_1.length c0_1] 24 (0, 0)) (by (with_reducible repeat (first | refine blk_drewN ?_ _ | refine blk_drew ?_ | refine blk_alloc ?_ _)); exact BK581.out) hb); have n1_ := Aside0.mk (below_step (by repeat (first | (with_reducible first | exact HB.out | apply below_alloc | apply pw_below_drewN | apply below_drew1 | refine below_set ?_ GE581.out) | exact HB.out)) hb); clear BK581; clear HB; have BK581 := n0_; have HB := n1_; clear n0_ n1_; (try clear hb); (try clear hb2); (try clear hk); (try clear hi); have hcz54_0 : w53.cell? ⟨gb581, 0, none⟩ = some (.int .i64 a0_0) := (blk_cell BK581.out 0).trans rfl; have hcz54_1 : w53.cell? ⟨gb581, 1, none⟩ = some (.slice A0_1 l0_1.length c0_1) := (blk_cell BK581.out 1).trans rfl; have hfz54_0 := blk_frozen BK581.out 0; have hfz54_1 := blk_frozen BK581.out 1) | ((with_reducible refine gate_callee (f := 42) rfl ?_); refine goesL_ (some 81) rfl rfl Try.func42 (by kernel_rfl) rfl #[.agg #[.int .i64 a0_0, .slice A0_1 l0_1.length c0_1], .int .i64 t584, .int .i64 t586] rfl (by (try simp only [List.map_toArray, List.map_cons, List.map_nil]); first | done | rfl | (simp only [List.length_drop, List.length_take]; rfl)) ?_; (with_reducible refine (cal_Count.calls a0_0 _ _ l0_1 t584 t586 t591 t592 _ ?side1 ?side2 A38.out).mono ?_); (case side1 => repeat (first | exact (Kd.C_below HR0_1.out HB.out) | (with_reducible refine Kd.C_alloc ?_ _) | (with_reducible refine Kd.C_drewN ?_ _) | (with_reducible refine Kd.C_drew ?_))); (case side2 => exact HC0_1.out); rintro e w55 ⟨rfl, hb⟩; refine ⟨_, rfl, ?_⟩; have n0_ := Aside0.mk (blk_below (g := gb581) (o := .cells #[.int .i64 a0_0, .slice A0_1 l0_1.length c0_1] 24 (0, 0)) (by (with_reducible repeat (first | refine blk_drewN ?_ _ | refine blk_drew ?_ | refine blk_alloc ?_ _)); exact BK581.out) hb); have n1_ := Aside0.mk (below_step (by repeat (first | (with_reducible first | exact HB.out | apply below_alloc | apply pw_below_drewN | apply below_drew1 | refine below_set ?_ GE581.out) | exact HB.out)) hb); clear BK581; clear HB; have BK581 := n0_; have HB := n1_; clear n0_ n1_; (try clear hb); (try clear hb2); (try clear hk); (try clear hi); have hcz56_0 : w55.cell? ⟨gb581, 0, none⟩ = some (.int .i64 a0_0) := (blk_cell BK581.out 0).trans rfl; have hcz56_1 : w55.cell? ⟨gb581, 1, none⟩ = some (.slice A0_1 l0_1.length c0_1) := (blk_cell BK581.out 1).trans rfl; have hfz56_0 := blk_frozen BK581.out 0; have hfz56_1 := blk_frozen BK581.out 1) | ((with_reducible refine gate_callee (f := 42) rfl ?_); refine goesL_ (some 88) rfl rfl Try.func42 (by kernel_rfl) rfl #[.agg #[.int .i64 a0_0, .slice A0_1 l0_1.length c0_1], .int .i64 a1, .int .i64 t584] rfl (by (try simp only [List.map_toArray, List.map_cons, List.map_nil]); first | done | rfl | (simp only [List.length_drop, List.length_take]; rfl)) ?_; (with_reducible refine (cal_Count.calls a0_0 _ _ l0_1 a1 t584 t593 t594 _ ?side1 ?side2 A39.out).mono ?_); (case side1 => repeat (first | exact (Kd.C_below HR0_1.out HB.out) | (with_reducible refine Kd.C_alloc ?_ _) | (with_reducible refine Kd.C_drewN ?_ _) | (with_reducible refine Kd.C_drew ?_))); (case side2 => exact HC0_1.out); rintro e w57 ⟨rfl, hb⟩; refine ⟨_, rfl, ?_⟩; have n0_ := Aside0.mk (blk_below (g := gb581) (o := .cells #[.int .i64 a0_0, .slice A0_1 l0_1.length c0_1] 24 (0, 0)) (by (with_reducible repeat (first | refine blk_drewN ?_ _ | refine blk_drew ?_ | refine blk_alloc ?_ _)); exact BK581.out) hb); have n1_ := Aside0.mk (below_step (by repeat (first | (with_reducible first | exact HB.out | apply below_alloc | apply pw_below_drewN | apply below_drew1 | refine below_set ?_ GE581.out) | exact HB.out)) hb); clear BK581; clear HB; have BK581 := n0_; have HB := n1_; clear n0_ n1_; (try clear hb); (try clear hb2); (try clear hk); (try clear hi); have hcz58_0 : w57.cell? ⟨gb581, 0, none⟩ = some (.int .i64 a0_0) := (blk_cell BK581.out 0).trans rfl; have hcz58_1 : w57.cell? ⟨gb581, 1, none⟩ = some (.slice A0_1 l0_1.length c0_1) := (blk_cell BK581.out 1).trans rfl; have hfz58_0 := blk_frozen BK581.out 0; have hfz58_1 := blk_frozen BK581.out 1) | ((with_reducible refine gate_callee (f := 42) rfl ?_); refine goesL_ (some 95) rfl rfl Try.func42 (by kernel_rfl) rfl #[.agg #[.int .i64 a0_0, .slice A0_1 l0_1.length c0_1], .int .i64 a1, .int .i64 t586] rfl (by (try simp only [List.map_toArray, List.map_cons, List.map_nil]); first | done | rfl | (simp only [List.length_drop, List.length_take]; rfl)) ?_; (with_reducible refine (cal_Count.calls a0_0 _ _ l0_1 a1 t586 t595 t596 _ ?side1 ?side2 A40.out).mono ?_); (case side1 => repeat (first | exact (Kd.C_below HR0_1.out HB.out) | (with_reducible refine Kd.C_alloc ?_ _) | (with_reducible refine Kd.C_drewN ?_ _) | (with_reducible refine Kd.C_drew ?_))); (case side2 => exact HC0_1.out); rintro e w59 ⟨rfl, hb⟩; refine ⟨_, rfl, ?_⟩; have n0_ := Aside0.mk (blk_below (g := gb581) (o := .cells #[.int .i64 a0_0, .slice A0_1 l0_1.length c0_1] 24 (0, 0)) (by (with_reducible repeat (first | refine blk_drewN ?_ _ | refine blk_drew ?_ | refine blk_alloc ?_ _)); exact BK581.out) hb); have n1_ := Aside0.mk (below_step (by repeat (first | (with_reducible first | exact HB.out | apply below_alloc | apply pw_below_drewN | apply below_drew1 | refine below_set ?_ GE581.out) | exact HB.out)) hb); clear BK581; clear HB; have BK581 := n0_; have HB := n1_; clear n0_ n1_; (try clear hb); (try clear hb2); (try clear hk); (try clear hi); have hcz60_0 : w59.cell? ⟨gb581, 0, none⟩ = some (.int .i64 a0_0) := (blk_cell BK581.out 0).trans rfl; have hcz60_1 : w59.cell? ⟨gb581, 1, none⟩ = some (.slice A0_1 l0_1.length c0_1) := (blk_cell BK581.out 1).trans rfl; have hfz60_0 := blk_frozen BK581.out 0; have hfz60_1 := blk_frozen BK581.out 1) | ((with_reducible refine gate_callee (f := 42) rfl ?_); refine goesL_ (some 102) rfl rfl Try.func42 (by kernel_rfl) rfl #[.agg #[.int .i64 a0_0, .slice A0_1 l0_1.length c0_1], .int .i64 t586, .int .i64 a1] rfl (by (try simp only [List.map_toArray, List.map_cons, List.map_nil]); first | done | rfl | (simp only [List.length_drop, List.length_take]; rfl)) ?_; (with_reducible refine (cal_Count.calls a0_0 _ _ l0_1 t586 a1 t597 t598 _ ?side1 ?side2 A41.out).mono ?_); (case side1 => repeat (first | exact (Kd.C_below HR0_1.out HB.out) | (with_reducible refine Kd.C_alloc ?_ _) | (with_reducible refine Kd.C_drewN ?_ _) | (with_reducible refine Kd.C_drew ?_))); (case side2 => exact HC0_1.out); rintro e w61 ⟨rfl, hb⟩; refine ⟨_, rfl, ?_⟩; have n0_ := Aside0.mk (blk_below (g := gb581) (o := .cells #[.int .i64 a0_0, .slice A0_1 l0_1.length c0_1] 24 (0, 0)) (by (with_reducible repeat (first | refine blk_drewN ?_ _ | refine blk_drew ?_ | refine blk_alloc ?_ _)); exact BK581.out) hb); have n1_ := Aside0.mk (below_step (by repeat (first | (with_reducible first | exact HB.out | apply below_alloc | apply pw_below_drewN | apply below_drew1 | refine below_set ?_ GE581.out) | exact HB.out)) hb); clear BK581; clear HB; have BK581 := n0_; have HB := n1_; clear n0_ n1_; (try clear hb); (try clear hb2); (try clear hk); (try clear hi)) | (go_at_call 32; (with_reducible refine (tenorlaw6_awake.calls  t599 _ A51.out).mono ?_); rintro e w62 ⟨rfl, hb⟩; have n0_ := Aside0.mk (blk_below (g := gb581) (o := .cells #[.int .i64 a0_0, .slice A0_1 l0_1.length c0_1] 24 (0, 0)) (by (with_reducible repeat (first | refine blk_drewN ?_ _ | refine blk_drew ?_ | refine blk_alloc ?_ _)); exact BK581.out) hb); have n1_ := Aside0.mk (below_step (by repeat (first | (with_reducible first | exact HB.out | apply below_alloc | apply pw_below_drewN | apply below_drew1 | refine below_set ?_ GE581.out) | exact HB.out)) hb); clear BK581; clear HB; have BK581 := n0_; have HB := n1_; clear n0_ n1_; (try clear hb); (try clear hb2); (try clear hk); (try clear hi)))
                                go_ret
                                exact ⟨by first | rfl | (simp [errW_none, errW_some] <;> rfl) | (simp [*, errW_none, errW_some] <;> rfl), by repeat (first | (with_reducible first | exact HB.out | apply below_alloc | apply pw_below_drewN | apply below_drew1 | refine below_set ?_ GE581.out) | exact HB.out)⟩
                              · rw [if_neg c50] at H
                                have c50b0 : (t597 == (wrap64 (-t595))) = false := beq_eq_false_iff_ne.mpr c50
                                have c50b1 : (t597 != (wrap64 (-t595))) = true := bne_iff_ne.mpr c50
                                exact absurd (H.trans (congrArg some HT)) (by decide)
                            · rw [if_neg c49] at H
                              have c49b0 : ((wrap64 (t593 + t591)) == t595) = false := beq_eq_false_iff_ne.mpr c49
                              have c49b1 : ((wrap64 (t593 + t591)) != t595) = true := bne_iff_ne.mpr c49
                              exact absurd (H.trans (congrArg some HT)) (by decide)
                          · rw [if_neg c48] at H
                            have c48b0 : (t591 == a3) = false := beq_eq_false_iff_ne.mpr c48
                            have c48b1 : (t591 != a3) = true := bne_iff_ne.mpr c48
                            exact absurd (H.trans (congrArg some HT)) (by decide)
                        · rw [if_neg c47] at H
                          have c47b0 : (t589 == t586) = false := beq_eq_false_iff_ne.mpr c47
                          have c47b1 : (t589 != t586) = true := bne_iff_ne.mpr c47
                          exact absurd (H.trans (congrArg some HT)) (by decide)
                      · rw [if_neg c46] at H
                        have c46b0 : (t598 == 0) = false := beq_eq_false_iff_ne.mpr c46
                        have c46b1 : (t598 != 0) = true := bne_iff_ne.mpr c46
                        exact absurd (H.trans (congrArg some HT)) (by decide)
                    · rw [if_neg c45] at H
                      have c45b0 : (t596 == 0) = false := beq_eq_false_iff_ne.mpr c45
                      have c45b1 : (t596 != 0) = true := bne_iff_ne.mpr c45
                      exact absurd (H.trans (congrArg some HT)) (by decide)
                  · rw [if_neg c44] at H
                    have c44b0 : (t594 == 0) = false := beq_eq_false_iff_ne.mpr c44
                    have c44b1 : (t594 != 0) = true := bne_iff_ne.mpr c44
                    exact absurd (H.trans (congrArg some HT)) (by decide)
                · rw [if_neg c43] at H
                  have c43b0 : (t592 == 0) = false := beq_eq_false_iff_ne.mpr c43
                  have c43b1 : (t592 != 0) = true := bne_iff_ne.mpr c43
                  exact absurd (H.trans (congrArg some HT)) (by decide)
              · rw [if_neg c42] at H
                have c42b0 : (t590 == 0) = false := beq_eq_false_iff_ne.mpr c42
                have c42b1 : (t590 != 0) = true := bne_iff_ne.mpr c42
                exact absurd (H.trans (congrArg some HT)) (by decide)

end Go.Proofs.Ytoncignjcgjhhaa.Q
