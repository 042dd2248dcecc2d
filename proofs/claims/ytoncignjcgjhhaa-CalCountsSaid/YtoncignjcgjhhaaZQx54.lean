/- Contracts of functions of the seat's program: each Go function's Lean function and its walk, written by a program of this session over the kit's print. Not trusted: Lean checks it. -/
import Derived.Test.YtoncignjcgjhhaaZGA
import Derived.Test.YtoncignjcgjhhaaZGF
import Derived.Test.YtoncignjcgjhhaaZGK
import Derived.Test.YtoncignjcgjhhaaZGL
import Derived.Test.YtoncignjcgjhhaaZGM
set_option linter.unusedVariables false
set_option linter.unusedSimpArgs false
namespace Go.Proofs.Ytoncignjcgjhhaa.Q
open Go.RowKit Go.Proofs.YtoncignjcgjhhaaW.PrintWords Go.Proofs.YtoncignjcgjhhaaW.PrintLast Go.Proofs.YtoncignjcgjhhaaW.PrintMore
attribute [local go_sem] max2_int min2_int max_two min_two max_three min_three max_four min_four   -- for this text's walks alone
set_option linter.unusedVariables false
set_option linter.unusedSimpArgs false

/-! ### tenorlaw6_CalCounts: function 11 -/
def tenorlaw6_CalCounts.j0 : Nat → Int → Int → Bool → Int → List (S63) → Option (Bool)
  | 0, _, _, _, _, _ => none
  | k + 1, x1, x2, x47, x558000, x558001 => if x47 = true then ((tenorlaw6_awake.f).bind fun t559 => (some t559)) else ((cal_Count.f x558000 x558001 x1 x2).bind fun bt560 => ((tenorref6_Count.f k x558000 x558001 x1 x2).bind fun bt562 => (if bt560.1 = bt562.1 then (if bt560.2 = bt562.2 then ((tenorlaw6_awake.f).bind fun t564 => (some t564)) else (some false)) else (some false))))
def tenorlaw6_CalCounts.f (k : Nat) (a0_0 : Int) (l0_1 : List (S63)) (a1 : Int) (a2 : Int) : Option (Bool) := (tenorlaw6_Few.f a0_0 l0_1).bind fun t558 => (if t558 = true then (if (l0_1.length : Int) > 0 then (if a1 ≥ 0 then (if a2 ≥ 0 then (if a1 ≤ 109572 then (if a2 ≤ 109572 then (if (wrap64 (a1 - a2)) > 800 then (tenorlaw6_CalCounts.j0 k a1 a2 true a0_0 l0_1) else (tenorlaw6_CalCounts.j0 k a1 a2 (decide ((wrap64 (a2 - a1)) > 800)) a0_0 l0_1)) else (tenorlaw6_CalCounts.j0 k a1 a2 false a0_0 l0_1)) else (tenorlaw6_CalCounts.j0 k a1 a2 false a0_0 l0_1)) else (tenorlaw6_CalCounts.j0 k a1 a2 false a0_0 l0_1)) else (tenorlaw6_CalCounts.j0 k a1 a2 false a0_0 l0_1)) else (tenorlaw6_CalCounts.j0 k a1 a2 false a0_0 l0_1)) else (tenorlaw6_CalCounts.j0 k a1 a2 true a0_0 l0_1))
theorem tenorlaw6_CalCounts.mono_l : ∀ k, (∀ y0 y1 y2 y3 y4, LeO (tenorlaw6_CalCounts.j0 k y0 y1 y2 y3 y4) (tenorlaw6_CalCounts.j0 (k + 1) y0 y1 y2 y3 y4))
  | 0 => fun _ _ _ _ _ r h => by simp [tenorlaw6_CalCounts.j0] at h
  | k + 1 => by
    have ih0 := tenorlaw6_CalCounts.mono_l k
    · intro y0 y1 y2 y3 y4
      unfold tenorlaw6_CalCounts.j0
      repeat' first
      | (with_reducible exact ih0 _ _ _ _ _)
      | (with_reducible exact tenorref6_Count.mono _ _ _ _ _)
      | (with_reducible exact LeO.refl _)
      | (with_reducible exact LeO.none _)
      | (with_reducible refine LeO.ite ?_ ?_)
      | (with_reducible refine LeO.bind ?_ (fun _ => ?_))
      | exact ih0 _ _ _ _ _
      | exact tenorref6_Count.mono _ _ _ _ _
      | exact LeO.none _
      | refine LeO.ite ?_ ?_
      | refine LeO.bind ?_ (fun _ => ?_)
theorem tenorlaw6_CalCounts.mono : ∀ a0 a1 a2 a3 k, LeO (tenorlaw6_CalCounts.f k a0 a1 a2 a3) (tenorlaw6_CalCounts.f (k + 1) a0 a1 a2 a3) := by
  intro a0 a1 a2 a3 k
  have ih0 := tenorlaw6_CalCounts.mono_l k
  unfold tenorlaw6_CalCounts.f
  repeat' first
      | (with_reducible exact ih0 _ _ _ _ _)
      | (with_reducible exact tenorref6_Count.mono _ _ _ _ _)
      | (with_reducible exact LeO.refl _)
      | (with_reducible exact LeO.none _)
      | (with_reducible refine LeO.ite ?_ ?_)
      | (with_reducible refine LeO.bind ?_ (fun _ => ?_))
      | exact ih0 _ _ _ _ _
      | exact tenorref6_Count.mono _ _ _ _ _
      | exact LeO.none _
      | refine LeO.ite ?_ ?_
      | refine LeO.bind ?_ (fun _ => ?_)
set_option maxHeartbeats 8000000 in
set_option maxRecDepth 100000 in
theorem tenorlaw6_CalCounts.calls (k : Nat) (a0_0 : Int) (A0_1 : Option Addr) (c0_1 : Nat) (l0_1 : List (S63)) (a1 : Int) (a2 : Int) (r : Bool) (w : World) (hr0_1 : Kd.C k63 w A0_1 l0_1.length l0_1) (hc0_1 : l0_1.length ≤ c0_1) (h : tenorlaw6_CalCounts.f k a0_0 l0_1 a1 a2 = some r) (HT : r = true) :
    Calls Try.prog 11 #[.agg #[.int .i64 a0_0, .slice A0_1 l0_1.length c0_1], .int .i64 a1, .int .i64 a2] w fun e w' => e = .returned (.bool r) ∧ Below w.heap.size w w' := by
  have hu24 := Try.underlying24
  have HR0_1 := Aside0.mk hr0_1
  have HC0_1 := Aside0.mk hc0_1
  clear hr0_1 hc0_1
  have HB := Aside0.mk (Below.refl w.heap.size w)
  have H : ((tenorlaw6_Few.f a0_0 l0_1).bind fun t558 => (if t558 = true then (if (l0_1.length : Int) > 0 then (if a1 ≥ 0 then (if a2 ≥ 0 then (if a1 ≤ 109572 then (if a2 ≤ 109572 then (if (wrap64 (a1 - a2)) > 800 then (tenorlaw6_CalCounts.j0 k a1 a2 true a0_0 l0_1) else (tenorlaw6_CalCounts.j0 k a1 a2 (decide ((wrap64 (a2 - a1)) > 800)) a0_0 l0_1)) else (tenorlaw6_CalCounts.j0 k a1 a2 false a0_0 l0_1)) else (tenorlaw6_CalCounts.j0 k a1 a2 false a0_0 l0_1)) else (tenorlaw6_CalCounts.j0 k a1 a2 false a0_0 l0_1)) else (tenorlaw6_CalCounts.j0 k a1 a2 false a0_0 l0_1)) else (tenorlaw6_CalCounts.j0 k a1 a2 false a0_0 l0_1)) else (tenorlaw6_CalCounts.j0 k a1 a2 true a0_0 l0_1))) = some r := h
  clear h
  have HC4 := Aside0.mk H
  clear H
  go_enter Try.func11, Try.ntmps11
  go_upto_region 1 with (first | ((with_reducible refine gate_dst (N := 3) rfl ?_); (try (refine gate_guard (by rfl) ?_; dsimp only)); refine box_event ?hg (N := 3) ?hd (cs := #[.int .i64 a0_0, .slice A0_1 l0_1.length c0_1]) (t := 24) ?hr ?_; (case hd => rfl); (case hg => rfl); (case hr => first | (go_simp; done) | (go_simp; rfl)); intro gb557 hg w5 hbox hb; have n0_ := Aside0.mk (below_step (by repeat (first | (with_reducible first | exact HB.out | apply below_alloc | apply pw_below_drewN | apply below_drew1) | exact HB.out)) hb); have n1_ := Aside0.mk (hbox); have n2_ := Aside0.mk ((by rw [hg]; exact (below_size (by repeat (first | (with_reducible first | exact HB.out | apply below_alloc | apply pw_below_drewN | apply below_drew1) | exact HB.out))) : w.heap.size ≤ gb557)); have n3_ := Aside0.mk ((by rw [hg]; exact (below_size (by repeat (first | (with_reducible first | exact HB.out | apply below_alloc | apply pw_below_drewN | apply below_drew1) | exact HB.out))) : w.heap.size ≤ gb557)); clear HB; have HB := n0_; have BK557 := n1_; have GW557 := n2_; have GE557 := n3_; clear n0_ n1_ n2_ n3_; clear hb hbox hg))
  (try simp only [Act.put, List.setIfInBounds_toArray, List.set_cons_zero, List.set_cons_succ])
  go_cut [47] (fun v47 wc => ∃ (kq : Nat) (x47_3 : Bool), v47 = .bool x47_3 ∧ Aside0 (tenorlaw6_CalCounts.j0 kq a1 a2 x47_3 a0_0 l0_1 = some r) ∧ Aside0 (kq ≤ k) ∧ Aside0 (wc.heap[gb557]? = some (.cells #[.int .i64 a0_0, (.slice A0_1 l0_1.length c0_1)] 24 (0, 0))) ∧ Aside0 (Below w.heap.size w wc))
  case first =>
    have H := HC4.out
    clear HC4
    replace H := Option.bind_eq_some_iff.mp H
    obtain ⟨t558, A60, H⟩ := H
    replace H : (if t558 = true then (if (l0_1.length : Int) > 0 then (if a1 ≥ 0 then (if a2 ≥ 0 then (if a1 ≤ 109572 then (if a2 ≤ 109572 then (if (wrap64 (a1 - a2)) > 800 then (tenorlaw6_CalCounts.j0 k a1 a2 true a0_0 l0_1) else (tenorlaw6_CalCounts.j0 k a1 a2 (decide ((wrap64 (a2 - a1)) > 800)) a0_0 l0_1)) else (tenorlaw6_CalCounts.j0 k a1 a2 false a0_0 l0_1)) else (tenorlaw6_CalCounts.j0 k a1 a2 false a0_0 l0_1)) else (tenorlaw6_CalCounts.j0 k a1 a2 false a0_0 l0_1)) else (tenorlaw6_CalCounts.j0 k a1 a2 false a0_0 l0_1)) else (tenorlaw6_CalCounts.j0 k a1 a2 false a0_0 l0_1)) else (tenorlaw6_CalCounts.j0 k a1 a2 true a0_0 l0_1)) = some r := H
    have A6 := Aside0.mk A60
    clear A60
    by_cases c7 : t558 = true
    · subst c7
      have H1 : (if (l0_1.length : Int) > 0 then (if a1 ≥ 0 then (if a2 ≥ 0 then (if a1 ≤ 109572 then (if a2 ≤ 109572 then (if (wrap64 (a1 - a2)) > 800 then (tenorlaw6_CalCounts.j0 k a1 a2 true a0_0 l0_1) else (tenorlaw6_CalCounts.j0 k a1 a2 (decide ((wrap64 (a2 - a1)) > 800)) a0_0 l0_1)) else (tenorlaw6_CalCounts.j0 k a1 a2 false a0_0 l0_1)) else (tenorlaw6_CalCounts.j0 k a1 a2 false a0_0 l0_1)) else (tenorlaw6_CalCounts.j0 k a1 a2 false a0_0 l0_1)) else (tenorlaw6_CalCounts.j0 k a1 a2 false a0_0 l0_1)) else (tenorlaw6_CalCounts.j0 k a1 a2 false a0_0 l0_1)) = some r := by rw [if_pos rfl] at H; exact H
      clear H
      have H := H1
      clear H1
      by_cases c8 : (l0_1.length : Int) > 0
      · rw [if_pos c8] at H
        have c8b0 : decide (0 < (l0_1.length : Int)) = true := decide_eq_true c8
        have c8b1 : decide (0 < l0_1.length) = true := decide_eq_true (by omega)
        clear c8
        (first | rw [c8b0] | (simp only [i64_w, i32_w]; rw [c8b0]) | skip)
        by_cases c9 : a1 ≥ 0
        · rw [if_pos c9] at H
          have c9b0 : decide (0 ≤ a1) = true := decide_eq_true c9
          clear c9
          by_cases c10 : a2 ≥ 0
          · rw [if_pos c10] at H
            have c10b0 : decide (0 ≤ a2) = true := decide_eq_true c10
            clear c10
            by_cases c11 : a1 ≤ 109572
            · rw [if_pos c11] at H
              have c11b0 : decide (a1 ≤ 109572) = true := decide_eq_true c11
              clear c11
              by_cases c12 : a2 ≤ 109572
              · rw [if_pos c12] at H
                have c12b0 : decide (a2 ≤ 109572) = true := decide_eq_true c12
                clear c12
                by_cases c13 : (wrap64 (a1 - a2)) > 800
                · rw [if_pos c13] at H
                  have c13b0 : decide (800 < (wrap64 (a1 - a2))) = true := decide_eq_true c13
                  clear c13
                  have H' := Aside0.mk H
                  clear H
                  have hcz14_0 : w5.cell? ⟨gb557, 0, none⟩ = some (.int .i64 a0_0) := (blk_cell BK557.out 0).trans rfl
                  have hcz14_1 : w5.cell? ⟨gb557, 1, none⟩ = some (.slice A0_1 l0_1.length c0_1) := (blk_cell BK557.out 1).trans rfl
                  have hfz14_0 := blk_frozen BK557.out 0
                  have hfz14_1 := blk_frozen BK557.out 1
                  go_wp2_with (first | ((with_reducible refine gate_callee (f := 37) rfl ?_); refine goesL_ (some 12) rfl rfl Try.func37 (by kernel_rfl) rfl #[.agg #[.int .i64 a0_0, .slice A0_1 l0_1.length c0_1]] rfl (by (try simp only [List.map_toArray, List.map_cons, List.map_nil]); first | done | rfl | (simp only [List.length_drop, List.length_take]; rfl)) ?_; (with_reducible refine (tenorlaw6_Few.calls a0_0 _ _ l0_1 true _ ?side1 ?side2 A6.out).mono ?_); (case side1 => repeat (first | exact (Kd.C_below HR0_1.out HB.out) | (with_reducible refine Kd.C_alloc ?_ _) | (with_reducible refine Kd.C_drewN ?_ _) | (with_reducible refine Kd.C_drew ?_))); (case side2 => exact HC0_1.out); rintro e w15 ⟨rfl, hb⟩; refine ⟨_, rfl, ?_⟩; have n0_ := Aside0.mk (blk_below (g := gb557) (o := .cells #[.int .i64 a0_0, .slice A0_1 l0_1.length c0_1] 24 (0, 0)) (by (with_reducible repeat (first | refine blk_drewN ?_ _ | refine blk_drew ?_ | refine blk_alloc ?_ _)); exact BK557.out) hb); have n1_ := Aside0.mk (below_step (by repeat (first | (with_reducible first | exact HB.out | apply below_alloc | apply pw_below_drewN | apply below_drew1 | refine below_set ?_ GE557.out) | exact HB.out)) hb); clear BK557; clear HB; have BK557 := n0_; have HB := n1_; clear n0_ n1_; (try clear hb); (try clear hb2); (try clear hk); (try clear hi); have hcz16_0 : w15.cell? ⟨gb557, 0, none⟩ = some (.int .i64 a0_0) := (blk_cell BK557.out 0).trans rfl; have hcz16_1 : w15.cell? ⟨gb557, 1, none⟩ = some (.slice A0_1 l0_1.length c0_1) := (blk_cell BK557.out 1).trans rfl; have hfz16_0 := blk_frozen BK557.out 0; have hfz16_1 := blk_frozen BK557.out 1))
                  go_meet
                  case rel => exact ⟨_, (true), (by first | rfl | (simp; done) | (simp [*]; done)), H', ⟨by first | omega | exact Nat.le_refl _⟩, ⟨by (with_reducible repeat (first | refine blk_drewN ?_ _ | refine blk_drew ?_ | refine blk_alloc ?_ _)); exact BK557.out⟩, ⟨by repeat (first | (with_reducible first | exact HB.out | apply below_alloc | apply pw_below_drewN | apply below_drew1 | refine below_set ?_ GE557.out) | exact HB.out)⟩⟩
                · rw [if_neg c13] at H
                  have c13b0 : decide (800 < (wrap64 (a1 - a2))) = false := decide_eq_false c13
                  clear c13
                  have H' := Aside0.mk H
                  clear H
                  have hcz17_0 : w5.cell? ⟨gb557, 0, none⟩ = some (.int .i64 a0_0) := (blk_cell BK557.out 0).trans rfl
                  have hcz17_1 : w5.cell? ⟨gb557, 1, none⟩ = some (.slice A0_1 l0_1.length c0_1) := (blk_cell BK557.out 1).trans rfl
                  have hfz17_0 := blk_frozen BK557.out 0
                  have hfz17_1 := blk_frozen BK557.out 1
                  go_wp2_with (first | ((with_reducible refine gate_callee (f := 37) rfl ?_); refine goesL_ (some 12) rfl rfl Try.func37 (by kernel_rfl) rfl #[.agg #[.int .i64 a0_0, .slice A0_1 l0_1.length c0_1]] rfl (by (try simp only [List.map_toArray, List.map_cons, List.map_nil]); first | done | rfl | (simp only [List.length_drop, List.length_take]; rfl)) ?_; (with_reducible refine (tenorlaw6_Few.calls a0_0 _ _ l0_1 true _ ?side1 ?side2 A6.out).mono ?_); (case side1 => repeat (first | exact (Kd.C_below HR0_1.out HB.out) | (with_reducible refine Kd.C_alloc ?_ _) | (with_reducible refine Kd.C_drewN ?_ _) | (with_reducible refine Kd.C_drew ?_))); (case side2 => exact HC0_1.out); rintro e w18 ⟨rfl, hb⟩; refine ⟨_, rfl, ?_⟩; have n0_ := Aside0.mk (blk_below (g := gb557) (o := .cells #[.int .i64 a0_0, .slice A0_1 l0_1.length c0_1] 24 (0, 0)) (by (with_reducible repeat (first | refine blk_drewN ?_ _ | refine blk_drew ?_ | refine blk_alloc ?_ _)); exact BK557.out) hb); have n1_ := Aside0.mk (below_step (by repeat (first | (with_reducible first | exact HB.out | apply below_alloc | apply pw_below_drewN | apply below_drew1 | refine below_set ?_ GE557.out) | exact HB.out)) hb); clear BK557; clear HB; have BK557 := n0_; have HB := n1_; clear n0_ n1_; (try clear hb); (try clear hb2); (try clear hk); (try clear hi); have hcz19_0 : w18.cell? ⟨gb557, 0, none⟩ = some (.int .i64 a0_0) := (blk_cell BK557.out 0).trans rfl; have hcz19_1 : w18.cell? ⟨gb557, 1, none⟩ = some (.slice A0_1 l0_1.length c0_1) := (blk_cell BK557.out 1).trans rfl; have hfz19_0 := blk_frozen BK557.out 0; have hfz19_1 := blk_frozen BK557.out 1))
                  go_meet
                  case rel => exact ⟨_, (decide ((wrap64 (a2 - a1)) > 800)), (by first | rfl | (simp; done) | (simp [*]; done)), H', ⟨by first | omega | exact Nat.le_refl _⟩, ⟨by (with_reducible repeat (first | refine blk_drewN ?_ _ | refine blk_drew ?_ | refine blk_alloc ?_ _)); exact BK557.out⟩, ⟨by repeat (first | (with_reducible first | exact HB.out | apply below_alloc | apply pw_below_drewN | apply below_drew1 | refine below_set ?_ GE557.out) | exact HB.out)⟩⟩
              · rw [if_neg c12] at H
                have c12b0 : decide (a2 ≤ 109572) = false := decide_eq_false c12
                clear c12
                have H' := Aside0.mk H
                clear H
                have hcz20_0 : w5.cell? ⟨gb557, 0, none⟩ = some (.int .i64 a0_0) := (blk_cell BK557.out 0).trans rfl
                have hcz20_1 : w5.cell? ⟨gb557, 1, none⟩ = some (.slice A0_1 l0_1.length c0_1) := (blk_cell BK557.out 1).trans rfl
                have hfz20_0 := blk_frozen BK557.out 0
                have hfz20_1 := blk_frozen BK557.out 1
                go_wp2_with (first | ((with_reducible refine gate_callee (f := 37) rfl ?_); refine goesL_ (some 12) rfl rfl Try.func37 (by kernel_rfl) rfl #[.agg #[.int .i64 a0_0, .slice A0_1 l0_1.length c0_1]] rfl (by (try simp only [List.map_toArray, List.map_cons, List.map_nil]); first | done | rfl | (simp only [List.length_drop, List.length_take]; rfl)) ?_; (with_reducible refine (tenorlaw6_Few.calls a0_0 _ _ l0_1 true _ ?side1 ?side2 A6.out).mono ?_); (case side1 => repeat (first | exact (Kd.C_below HR0_1.out HB.out) | (with_reducible refine Kd.C_alloc ?_ _) | (with_reducible refine Kd.C_drewN ?_ _) | (with_reducible refine Kd.C_drew ?_))); (case side2 => exact HC0_1.out); rintro e w21 ⟨rfl, hb⟩; refine ⟨_, rfl, ?_⟩; have n0_ := Aside0.mk (blk_below (g := gb557) (o := .cells #[.int .i64 a0_0, .slice A0_1 l0_1.length c0_1] 24 (0, 0)) (by (with_reducible repeat (first | refine blk_drewN ?_ _ | refine blk_drew ?_ | refine blk_alloc ?_ _)); exact BK557.out) hb); have n1_ := Aside0.mk (below_step (by repeat (first | (with_reducible first | exact HB.out | apply below_alloc | apply pw_below_drewN | apply below_drew1 | refine below_set ?_ GE557.out) | exact HB.out)) hb); clear BK557; clear HB; have BK557 := n0_; have HB := n1_; clear n0_ n1_; (try clear hb); (try clear hb2); (try clear hk); (try clear hi); have hcz22_0 : w21.cell? ⟨gb557, 0, none⟩ = some (.int .i64 a0_0) := (blk_cell BK557.out 0).trans rfl; have hcz22_1 : w21.cell? ⟨gb557, 1, none⟩ = some (.slice A0_1 l0_1.length c0_1) := (blk_cell BK557.out 1).trans rfl; have hfz22_0 := blk_frozen BK557.out 0; have hfz22_1 := blk_frozen BK557.out 1))
                go_meet
                case rel => exact ⟨_, (false), (by first | rfl | (simp; done) | (simp [*]; done)), H', ⟨by first | omega | exact Nat.le_refl _⟩, ⟨by (with_reducible repeat (first | refine blk_drewN ?_ _ | refine blk_drew ?_ | refine blk_alloc ?_ _)); exact BK557.out⟩, ⟨by repeat (first | (with_reducible first | exact HB.out | apply below_alloc | apply pw_below_drewN | apply below_drew1 | refine below_set ?_ GE557.out) | exact HB.out)⟩⟩
            · rw [if_neg c11] at H
              have c11b0 : decide (a1 ≤ 109572) = false := decide_eq_false c11
              clear c11
              have H' := Aside0.mk H
              clear H
              have hcz23_0 : w5.cell? ⟨gb557, 0, none⟩ = some (.int .i64 a0_0) := (blk_cell BK557.out 0).trans rfl
              have hcz23_1 : w5.cell? ⟨gb557, 1, none⟩ = some (.slice A0_1 l0_1.length c0_1) := (blk_cell BK557.out 1).trans rfl
              have hfz23_0 := blk_frozen BK557.out 0
              have hfz23_1 := blk_frozen BK557.out 1
              go_wp2_with (first | ((with_reducible refine gate_callee (f := 37) rfl ?_); refine goesL_ (some 12) rfl rfl Try.func37 (by kernel_rfl) rfl #[.agg #[.int .i64 a0_0, .slice A0_1 l0_1.length c0_1]] rfl (by (try simp only [List.map_toArray, List.map_cons, List.map_nil]); first | done | rfl | (simp only [List.length_drop, List.length_take]; rfl)) ?_; (with_reducible refine (tenorlaw6_Few.calls a0_0 _ _ l0_1 true _ ?side1 ?side2 A6.out).mono ?_); (case side1 => repeat (first | exact (Kd.C_below HR0_1.out HB.out) | (with_reducible refine Kd.C_alloc ?_ _) | (with_reducible refine Kd.C_drewN ?_ _) | (with_reducible refine Kd.C_drew ?_))); (case side2 => exact HC0_1.out); rintro e w24 ⟨rfl, hb⟩; refine ⟨_, rfl, ?_⟩; have n0_ := Aside0.mk (blk_below (g := gb557) (o := .cells #[.int .i64 a0_0, .slice A0_1 l0_1.length c0_1] 24 (0, 0)) (by (with_reducible repeat (first | refine blk_drewN ?_ _ | refine blk_drew ?_ | refine blk_alloc ?_ _)); exact BK557.out) hb); have n1_ := Aside0.mk (below_step (by repeat (first | (with_reducible first | exact HB.out | apply below_alloc | apply pw_below_drewN | apply below_drew1 | refine below_set ?_ GE557.out) | exact HB.out)) hb); clear BK557; clear HB; have BK557 := n0_; have HB := n1_; clear n0_ n1_; (try clear hb); (try clear hb2); (try clear hk); (try clear hi); have hcz25_0 : w24.cell? ⟨gb557, 0, none⟩ = some (.int .i64 a0_0) := (blk_cell BK557.out 0).trans rfl; have hcz25_1 : w24.cell? ⟨gb557, 1, none⟩ = some (.slice A0_1 l0_1.length c0_1) := (blk_cell BK557.out 1).trans rfl; have hfz25_0 := blk_frozen BK557.out 0; have hfz25_1 := blk_frozen BK557.out 1))
              go_meet
              case rel => exact ⟨_, (false), (by first | rfl | (simp; done) | (simp [*]; done)), H', ⟨by first | omega | exact Nat.le_refl _⟩, ⟨by (with_reducible repeat (first | refine blk_drewN ?_ _ | refine blk_drew ?_ | refine blk_alloc ?_ _)); exact BK557.out⟩, ⟨by repeat (first | (with_reducible first | exact HB.out | apply below_alloc | apply pw_below_drewN | apply below_drew1 | refine below_set ?_ GE557.out) | exact HB.out)⟩⟩
          · rw [if_neg c10] at H
            have c10b0 : decide (0 ≤ a2) = false := decide_eq_false c10
            clear c10
            have H' := Aside0.mk H
            clear H
            have hcz26_0 : w5.cell? ⟨gb557, 0, none⟩ = some (.int .i64 a0_0) := (blk_cell BK557.out 0).trans rfl
            have hcz26_1 : w5.cell? ⟨gb557, 1, none⟩ = some (.slice A0_1 l0_1.length c0_1) := (blk_cell BK557.out 1).trans rfl
            have hfz26_0 := blk_frozen BK557.out 0
            have hfz26_1 := blk_frozen BK557.out 1
            go_wp2_with (first | ((with_reducible refine gate_callee (f := 37) rfl ?_); refine goesL_ (some 12) rfl rfl Try.func37 (by kernel_rfl) rfl #[.agg #[.int .i64 a0_0, .slice A0_1 l0_1.length c0_1]] rfl (by (try simp only [List.map_toArray, List.map_cons, List.map_nil]); first | done | rfl | (simp only [List.length_drop, List.length_take]; rfl)) ?_; (with_reducible refine (tenorlaw6_Few.calls a0_0 _ _ l0_1 true _ ?side1 ?side2 A6.out).mono ?_); (case side1 => repeat (first | exact (Kd.C_below HR0_1.out HB.out) | (with_reducible refine Kd.C_alloc ?_ _) | (with_reducible refine Kd.C_drewN ?_ _) | (with_reducible refine Kd.C_drew ?_))); (case side2 => exact HC0_1.out); rintro e w27 ⟨rfl, hb⟩; refine ⟨_, rfl, ?_⟩; have n0_ := Aside0.mk (blk_below (g := gb557) (o := .cells #[.int .i64 a0_0, .slice A0_1 l0_1.length c0_1] 24 (0, 0)) (by (with_reducible repeat (first | refine blk_drewN ?_ _ | refine blk_drew ?_ | refine blk_alloc ?_ _)); exact BK557.out) hb); have n1_ := Aside0.mk (below_step (by repeat (first | (with_reducible first | exact HB.out | apply below_alloc | apply pw_below_drewN | apply below_drew1 | refine below_set ?_ GE557.out) | exact HB.out)) hb); clear BK557; clear HB; have BK557 := n0_; have HB := n1_; clear n0_ n1_; (try clear hb); (try clear hb2); (try clear hk); (try clear hi); have hcz28_0 : w27.cell? ⟨gb557, 0, none⟩ = some (.int .i64 a0_0) := (blk_cell BK557.out 0).trans rfl; have hcz28_1 : w27.cell? ⟨gb557, 1, none⟩ = some (.slice A0_1 l0_1.length c0_1) := (blk_cell BK557.out 1).trans rfl; have hfz28_0 := blk_frozen BK557.out 0; have hfz28_1 := blk_frozen BK557.out 1))
            go_meet
            case rel => exact ⟨_, (false), (by first | rfl | (simp; done) | (simp [*]; done)), H', ⟨by first | omega | exact Nat.le_refl _⟩, ⟨by (with_reducible repeat (first | refine blk_drewN ?_ _ | refine blk_drew ?_ | refine blk_alloc ?_ _)); exact BK557.out⟩, ⟨by repeat (first | (with_reducible first | exact HB.out | apply below_alloc | apply pw_below_drewN | apply below_drew1 | refine below_set ?_ GE557.out) | exact HB.out)⟩⟩
        · rw [if_neg c9] at H
          have c9b0 : decide (0 ≤ a1) = false := decide_eq_false c9
          clear c9
          have H' := Aside0.mk H
          clear H
          have hcz29_0 : w5.cell? ⟨gb557, 0, none⟩ = some (.int .i64 a0_0) := (blk_cell BK557.out 0).trans rfl
          have hcz29_1 : w5.cell? ⟨gb557, 1, none⟩ = some (.slice A0_1 l0_1.length c0_1) := (blk_cell BK557.out 1).trans rfl
          have hfz29_0 := blk_frozen BK557.out 0
          have hfz29_1 := blk_frozen BK557.out 1
          go_wp2_with (first | ((with_reducible refine gate_callee (f := 37) rfl ?_); refine goesL_ (some 12) rfl rfl Try.func37 (by kernel_rfl) rfl #[.agg #[.int .i64 a0_0, .slice A0_1 l0_1.length c0_1]] rfl (by (try simp only [List.map_toArray, List.map_cons, List.map_nil]); first | done | rfl | (simp only [List.length_drop, List.length_take]; rfl)) ?_; (with_reducible refine (tenorlaw6_Few.calls a0_0 _ _ l0_1 true _ ?side1 ?side2 A6.out).mono ?_); (case side1 => repeat (first | exact (Kd.C_below HR0_1.out HB.out) | (with_reducible refine Kd.C_alloc ?_ _) | (with_reducible refine Kd.C_drewN ?_ _) | (with_reducible refine Kd.C_drew ?_))); (case side2 => exact HC0_1.out); rintro e w30 ⟨rfl, hb⟩; refine ⟨_, rfl, ?_⟩; have n0_ := Aside0.mk (blk_below (g := gb557) (o := .cells #[.int .i64 a0_0, .slice A0_1 l0_1.length c0_1] 24 (0, 0)) (by (with_reducible repeat (first | refine blk_drewN ?_ _ | refine blk_drew ?_ | refine blk_alloc ?_ _)); exact BK557.out) hb); have n1_ := Aside0.mk (below_step (by repeat (first | (with_reducible first | exact HB.out | apply below_alloc | apply pw_below_drewN | apply below_drew1 | refine below_set ?_ GE557.out) | exact HB.out)) hb); clear BK557; clear HB; have BK557 := n0_; have HB := n1_; clear n0_ n1_; (try clear hb); (try clear hb2); (try clear hk); (try clear hi); have hcz31_0 : w30.cell? ⟨gb557, 0, none⟩ = some (.int .i64 a0_0) := (blk_cell BK557.out 0).trans rfl; have hcz31_1 : w30.cell? ⟨gb557, 1, none⟩ = some (.slice A0_1 l0_1.length c0_1) := (blk_cell BK557.out 1).trans rfl; have hfz31_0 := blk_frozen BK557.out 0; have hfz31_1 := blk_frozen BK557.out 1))
          go_meet
          case rel => exact ⟨_, (false), (by first | rfl | (simp; done) | (simp [*]; done)), H', ⟨by first | omega | exact Nat.le_refl _⟩, ⟨by (with_reducible repeat (first | refine blk_drewN ?_ _ | refine blk_drew ?_ | refine blk_alloc ?_ _)); exact BK557.out⟩, ⟨by repeat (first | (with_reducible first | exact HB.out | apply below_alloc | apply pw_below_drewN | apply below_drew1 | refine below_set ?_ GE557.out) | exact HB.out)⟩⟩
      · rw [if_neg c8] at H
        have c8b0 : decide (0 < (l0_1.length : Int)) = false := decide_eq_false c8
        have c8b1 : decide (0 < l0_1.length) = false := decide_eq_false (by omega)
        clear c8
        (first | rw [c8b0] | (simp only [i64_w, i32_w]; rw [c8b0]) | skip)
        have H' := Aside0.mk H
        clear H
        have hcz32_0 : w5.cell? ⟨gb557, 0, none⟩ = some (.int .i64 a0_0) := (blk_cell BK557.out 0).trans rfl
        have hcz32_1 : w5.cell? ⟨gb557, 1, none⟩ = some (.slice A0_1 l0_1.length c0_1) := (blk_cell BK557.out 1).trans rfl
        have hfz32_0 := blk_frozen BK557.out 0
        have hfz32_1 := blk_frozen BK557.out 1
        go_wp2_with (first | ((with_reducible refine gate_callee (f := 37) rfl ?_); refine goesL_ (some 12) rfl rfl Try.func37 (by kernel_rfl) rfl #[.agg #[.int .i64 a0_0, .slice A0_1 l0_1.length c0_1]] rfl (by (try simp only [List.map_toArray, List.map_cons, List.map_nil]); first | done | rfl | (simp only [List.length_drop, List.length_take]; rfl)) ?_; (with_reducible refine (tenorlaw6_Few.calls a0_0 _ _ l0_1 true _ ?side1 ?side2 A6.out).mono ?_); (case side1 => repeat (first | exact (Kd.C_below HR0_1.out HB.out) | (with_reducible refine Kd.C_alloc ?_ _) | (with_reducible refine Kd.C_drewN ?_ _) | (with_reducible refine Kd.C_drew ?_))); (case side2 => exact HC0_1.out); rintro e w33 ⟨rfl, hb⟩; refine ⟨_, rfl, ?_⟩; have n0_ := Aside0.mk (blk_below (g := gb557) (o := .cells #[.int .i64 a0_0, .slice A0_1 l0_1.length c0_1] 24 (0, 0)) (by (with_reducible repeat (first | refine blk_drewN ?_ _ | refine blk_drew ?_ | refine blk_alloc ?_ _)); exact BK557.out) hb); have n1_ := Aside0.mk (below_step (by repeat (first | (with_reducible first | exact HB.out | apply below_alloc | apply pw_below_drewN | apply below_drew1 | refine below_set ?_ GE557.out) | exact HB.out)) hb); clear BK557; clear HB; have BK557 := n0_; have HB := n1_; clear n0_ n1_; (try clear hb); (try clear hb2); (try clear hk); (try clear hi); have hcz34_0 : w33.cell? ⟨gb557, 0, none⟩ = some (.int .i64 a0_0) := (blk_cell BK557.out 0).trans rfl; have hcz34_1 : w33.cell? ⟨gb557, 1, none⟩ = some (.slice A0_1 l0_1.length c0_1) := (blk_cell BK557.out 1).trans rfl; have hfz34_0 := blk_frozen BK557.out 0; have hfz34_1 := blk_frozen BK557.out 1))
        go_meet
        case rel => exact ⟨_, (false), (by first | rfl | (simp; done) | (simp [*]; done)), H', ⟨by first | omega | exact Nat.le_refl _⟩, ⟨by (with_reducible repeat (first | refine blk_drewN ?_ _ | refine blk_drew ?_ | refine blk_alloc ?_ _)); exact BK557.out⟩, ⟨by repeat (first | (with_reducible first | exact HB.out | apply below_alloc | apply pw_below_drewN | apply below_drew1 | refine below_set ?_ GE557.out) | exact HB.out)⟩⟩
    · replace c7 := Bool.eq_false_iff.mpr c7
      subst c7
      have H1 : (tenorlaw6_CalCounts.j0 k a1 a2 true a0_0 l0_1) = some r := by rw [if_neg (show ¬ (false = true) by decide)] at H; exact H
      clear H
      have H := H1
      clear H1
      have H' := Aside0.mk H
      clear H
      have hcz35_0 : w5.cell? ⟨gb557, 0, none⟩ = some (.int .i64 a0_0) := (blk_cell BK557.out 0).trans rfl
      have hcz35_1 : w5.cell? ⟨gb557, 1, none⟩ = some (.slice A0_1 l0_1.length c0_1) := (blk_cell BK557.out 1).trans rfl
      have hfz35_0 := blk_frozen BK557.out 0
      have hfz35_1 := blk_frozen BK557.out 1
      go_wp2_with (first | ((with_reducible refine gate_callee (f := 37) rfl ?_); refine goesL_ (some 12) rfl rfl Try.func37 (by kernel_rfl) rfl #[.agg #[.int .i64 a0_0, .slice A0_1 l0_1.length c0_1]] rfl (by (try simp only [List.map_toArray, List.map_cons, List.map_nil]); first | done | rfl | (simp only [List.length_drop, List.length_take]; rfl)) ?_; (with_reducible refine (tenorlaw6_Few.calls a0_0 _ _ l0_1 false _ ?side1 ?side2 A6.out).mono ?_); (case side1 => repeat (first | exact (Kd.C_below HR0_1.out HB.out) | (with_reducible refine Kd.C_alloc ?_ _) | (with_reducible refine Kd.C_drewN ?_ _) | (with_reducible refine Kd.C_drew ?_))); (case side2 => exact HC0_1.out); rintro e w36 ⟨rfl, hb⟩; refine ⟨_, rfl, ?_⟩; have n0_ := Aside0.mk (blk_below (g := gb557) (o := .cells #[.int .i64 a0_0, .slice A0_1 l0_1.length c0_1] 24 (0, 0)) (by (with_reducible repeat (first | refine blk_drewN ?_ _ | refine blk_drew ?_ | refine blk_alloc ?_ _)); exact BK557.out) hb); have n1_ := Aside0.mk (below_step (by repeat (first | (with_reducible first | exact HB.out | apply below_alloc | apply pw_below_drewN | apply below_drew1 | refine below_set ?_ GE557.out) | exact HB.out)) hb); clear BK557; clear HB; have BK557 := n0_; have HB := n1_; clear n0_ n1_; (try clear hb); (try clear hb2); (try clear hk); (try clear hi)))
      go_meet
      case rel => exact ⟨_, (true), (by first | rfl | (simp; done) | (simp [*]; done)), H', ⟨by first | omega | exact Nat.le_refl _⟩, ⟨by (with_reducible repeat (first | refine blk_drewN ?_ _ | refine blk_drew ?_ | refine blk_alloc ?_ _)); exact BK557.out⟩, ⟨by repeat (first | (with_reducible first | exact HB.out | apply below_alloc | apply pw_below_drewN | apply below_drew1 | refine below_set ?_ GE557.out) | exact HB.out)⟩⟩
  case rest =>
    clear HC4
    try clear c1
    try clear p2
    try clear c3
    try clear p6
    try clear c7
    try clear c8
    try clear c8b0
    try clear c8b1
    try clear c9
    try clear c9b0
    try clear c10
    try clear c10b0
    try clear c11
    try clear c11b0
    try clear c12
    try clear c12b0
    try clear c13
    try clear c13b0
    try clear hcz14_0
    try clear hcz14_1
    try clear hcz16_0
    try clear hcz16_1
    try clear hcz17_0
    try clear hcz17_1
    try clear hcz19_0
    try clear hcz19_1
    try clear hcz20_0
    try clear hcz20_1
    try clear hcz22_0
    try clear hcz22_1
    try clear hcz23_0
    try clear hcz23_1
    try clear hcz25_0
    try clear hcz25_1
    try clear hcz26_0
    try clear hcz26_1
    try clear hcz28_0
    try clear hcz28_1
    try clear hcz29_0
    try clear hcz29_1
    try clear hcz31_0
    try clear hcz31_1
    try clear hcz32_0
    try clear hcz32_1
    try clear hcz34_0
    try clear hcz34_1
    try clear hcz35_0
    try clear hcz35_1
    try clear hfz14_0
    try clear hfz14_1
    try clear hfz16_0
    try clear hfz16_1
    try clear hfz17_0
    try clear hfz17_1
    try clear hfz19_0
    try clear hfz19_1
    try clear hfz20_0
    try clear hfz20_1
    try clear hfz22_0
    try clear hfz22_1
    try clear hfz23_0
    try clear hfz23_1
    try clear hfz25_0
    try clear hfz25_1
    try clear hfz26_0
    try clear hfz26_1
    try clear hfz28_0
    try clear hfz28_1
    try clear hfz29_0
    try clear hfz29_1
    try clear hfz31_0
    try clear hfz31_1
    try clear hfz32_0
    try clear hfz32_1
    try clear hfz34_0
    try clear hfz34_1
    try clear hfz35_0
    try clear hfz35_1
    obtain ⟨kq, x47_3, rfl, HA, HJ3, BK557, HB⟩ := hcut
    cases kq with
    | zero => exact absurd HA.out (by simp [tenorlaw6_CalCounts.j0])
    | succ kj3 =>
      have H := HA.out
      clear HA
      simp only [tenorlaw6_CalCounts.j0] at H
      by_cases c37 : x47_3 = true
      · subst c37
        have H1 : ((tenorlaw6_awake.f).bind fun t559 => (some t559)) = some r := by rw [if_pos rfl] at H; exact H
        clear H
        have H := H1
        clear H1
        replace H := Option.bind_eq_some_iff.mp H
        obtain ⟨t559, A380, H⟩ := H
        replace H : (some t559) = some r := H
        have A38 := Aside0.mk A380
        clear A380
        obtain rfl := Option.some.inj H
        go_wp2_with (first | ((with_reducible refine gate_callee (f := 32) rfl ?_); refine goesL_ (some 48) rfl rfl Try.func32 (by kernel_rfl) rfl #[] rfl (by (try simp only [List.map_toArray, List.map_cons, List.map_nil]); first | done | rfl | (simp only [List.length_drop, List.length_take]; rfl)) ?_; (with_reducible refine (tenorlaw6_awake.calls  t559 _ A38.out).mono ?_); rintro e w39 ⟨rfl, hb⟩; refine ⟨_, rfl, ?_⟩; have n0_ := Aside0.mk (blk_below (g := gb557) (o := .cells #[.int .i64 a0_0, .slice A0_1 l0_1.length c0_1] 24 (0, 0)) (by (with_reducible repeat (first | refine blk_drewN ?_ _ | refine blk_drew ?_ | refine blk_alloc ?_ _)); exact BK557.out) hb); have n1_ := Aside0.mk (below_step (by repeat (first | (with_reducible first | exact HB.out | apply below_alloc | apply pw_below_drewN | apply below_drew1 | refine below_set ?_ GE557.out) | exact HB.out)) hb); clear BK557; clear HB; have BK557 := n0_; have HB := n1_; clear n0_ n1_; (try clear hb); (try clear hb2); (try clear hk); (try clear hi)))
        go_ret
        exact ⟨by first | rfl | (simp [errW_none, errW_some] <;> rfl) | (simp [*, errW_none, errW_some] <;> rfl), by repeat (first | (with_reducible first | exact HB.out | apply below_alloc | apply pw_below_drewN | apply below_drew1 | refine below_set ?_ GE557.out) | exact HB.out)⟩
      · replace c37 := Bool.eq_false_iff.mpr c37
        subst c37
        have H1 : ((cal_Count.f a0_0 l0_1 a1 a2).bind fun bt560 => ((tenorref6_Count.f kj3 a0_0 l0_1 a1 a2).bind fun bt562 => (if bt560.1 = bt562.1 then (if bt560.2 = bt562.2 then ((tenorlaw6_awake.f).bind fun t564 => (some t564)) else (some false)) else (some false)))) = some r := by rw [if_neg (show ¬ (false = true) by decide)] at H; exact H
        clear H
        have H := H1
        clear H1
        replace H := Option.bind_eq_some_iff.mp H
        obtain ⟨⟨t560, t561⟩, A400, H⟩ := H
        replace H : ((tenorref6_Count.f kj3 a0_0 l0_1 a1 a2).bind fun bt562 => (if t560 = bt562.1 then (if t561 = bt562.2 then ((tenorlaw6_awake.f).bind fun t564 => (some t564)) else (some false)) else (some false))) = some r := H
        have A40 := Aside0.mk A400
        clear A400
        replace H := Option.bind_eq_some_iff.mp H
        obtain ⟨⟨t562, t563⟩, A410, H⟩ := H
        replace H : (if t560 = t562 then (if t561 = t563 then ((tenorlaw6_awake.f).bind fun t564 => (some t564)) else (some false)) else (some false)) = some r := H
        have A41 := Aside0.mk A410
        clear A410
        by_cases c42 : t560 = t562
        · rw [if_pos c42] at H
          have c42b0 : (t560 == t562) = true := beq_iff_eq.mpr c42
          have c42b1 : (t560 != t562) = false := bne_eq_false_iff_eq.mpr c42
          clear c42
          by_cases c43 : t561 = t563
          · rw [if_pos c43] at H
            have c43b0 : (t561 == t563) = true := beq_iff_eq.mpr c43
            have c43b1 : (t561 != t563) = false := bne_eq_false_iff_eq.mpr c43
            clear c43
            replace H := Option.bind_eq_some_iff.mp H
            obtain ⟨t564, A440, H⟩ := H
            replace H : (some t564) = some r := H
            have A44 := Aside0.mk A440
            clear A440
            obtain rfl := Option.some.inj H
            have hcz45_0 : wc.cell? ⟨gb557, 0, none⟩ = some (.int .i64 a0_0) := (blk_cell BK557.out 0).trans rfl
            have hcz45_1 : wc.cell? ⟨gb557, 1, none⟩ = some (.slice A0_1 l0_1.length c0_1) := (blk_cell BK557.out 1).trans rfl
            have hfz45_0 := blk_frozen BK557.out 0
            have hfz45_1 := blk_frozen BK557.out 1
            go_wp2_with (first | ((with_reducible refine gate_callee (f := 42) rfl ?_); refine goesL_ (some 53) rfl rfl Try.func42 (by kernel_rfl) rfl #[.agg #[.int .i64 a0_0, .slice A0_1 l0_1.length c0_1], .int .i64 a1, .int .i64 a2] rfl (by (try simp only [List.map_toArray, List.map_cons, List.map_nil]); first | done | rfl | (simp only [List.length_drop, List.length_take]; rfl)) ?_; (with_reducible refine (cal_Count.calls a0_0 _ _ l0_1 a1 a2 t560 t561 _ ?side1 ?side2 A40.out).mono ?_); (case side1 => repeat (first | exact (Kd.C_below HR0_1.out HB.out) | (with_reducible refine Kd.C_alloc ?_ _) | (with_reducible refine Kd.C_drewN ?_ _) | (with_reducible refine Kd.C_drew ?_))); (case side2 => exact HC0_1.out); rintro e w46 ⟨rfl, hb⟩; refine ⟨_, rfl, ?_⟩; have n0_ := Aside0.mk (blk_below (g := gb557) (o := .cells #[.int .i64 a0_0, .slice A0_1 l0_1.length c0_1] 24 (0, 0)) (by (with_reducible repeat (first | refine blk_drewN ?_ _ | refine blk_drew ?_ | refine blk_alloc ?_ _)); exact BK557.out) hb); have n1_ := Aside0.mk (below_step (by repeat (first | (with_reducible first | exact HB.out | apply below_alloc | apply pw_below_drewN | apply below_drew1 | refine below_set ?_ GE557.out) | exact HB.out)) hb); clear BK557; clear HB; have BK557 := n0_; have HB := n1_; clear n0_ n1_; (try clear hb); (try clear hb2); (try clear hk); (try clear hi); have hcz47_0 : w46.cell? ⟨gb557, 0, none⟩ = some (.int .i64 a0_0) := (blk_cell BK557.out 0).trans rfl; have hcz47_1 : w46.cell? ⟨gb557, 1, none⟩ = some (.slice A0_1 l0_1.length c0_1) := (blk_cell BK557.out 1).trans rfl; have hfz47_0 := blk_frozen BK557.out 0; have hfz47_1 := blk_frozen BK557.out 1) | ((with_reducible refine gate_callee (f := 43) rfl ?_); refine goesL_ (some 60) rfl rfl Try.func43 (by kernel_rfl) rfl #[.agg #[.int .i64 a0_0, .slice A0_1 l0_1.length c0_1], .int .i64 a1, .int .i64 a2] rfl (by (try simp only [List.map_toArray, List.map_cons, List.map_nil]); first | done | rfl | (simp only [List.length_drop, List.length_take]; rfl)) ?_; (with_reducible refine (tenorref6_Count.calls kj3 a0_0 _ _ l0_1 a1 a2 t562 t563 _ ?side1 ?side2 A41.out).mono ?_); (case side1 => repeat (first | exact (Kd.C_below HR0_1.out HB.out) | (with_reducible refine Kd.C_alloc ?_ _) | (with_reducible refine Kd.C_drewN ?_ _) | (with_reducible refine Kd.C_drew ?_))); (case side2 => exact HC0_1.out); rintro e w48 ⟨rfl, hb⟩; refine ⟨_, rfl, ?_⟩; have n0_ := Aside0.mk (blk_below (g := gb557) (o := .cells #[.int .i64 a0_0, .slice A0_1 l0_1.length c0_1] 24 (0, 0)) (by (with_reducible repeat (first | refine blk_drewN ?_ _ | refine blk_drew ?_ | refine blk_alloc ?_ _)); exact BK557.out) hb); have n1_ := Aside0.mk (below_step (by repeat (first | (with_reducible first | exact HB.out | apply below_alloc | apply pw_below_drewN | apply below_drew1 | refine below_set ?_ GE557.out) | exact HB.out)) hb); clear BK557; clear HB; have BK557 := n0_; have HB := n1_; clear n0_ n1_; (try clear hb); (try clear hb2); (try clear hk); (try clear hi)) | (go_at_call 32; (with_reducible refine (tenorlaw6_awake.calls  t564 _ A44.out).mono ?_); rintro e w49 ⟨rfl, hb⟩; have n0_ := Aside0.mk (blk_below (g := gb557) (o := .cells #[.int .i64 a0_0, .slice A0_1 l0_1.length c0_1] 24 (0, 0)) (by (with_reducible repeat (first | refine blk_drewN ?_ _ | refine blk_drew ?_ | refine blk_alloc ?_ _)); exact BK557.out) hb); have n1_ := Aside0.mk (below_step (by repeat (first | (with_reducible first | exact HB.out | apply below_alloc | apply pw_below_drewN | apply below_drew1 | refine below_set ?_ GE557.out) | exact HB.out)) hb); clear BK557; clear HB; have BK557 := n0_; have HB := n1_; clear n0_ n1_; (try clear hb); (try clear hb2); (try clear hk); (try clear hi)))
            go_ret
            exact ⟨by first | rfl | (simp [errW_none, errW_some] <;> rfl) | (simp [*, errW_none, errW_some] <;> rfl), by repeat (first | (with_reducible first | exact HB.out | apply below_alloc | apply pw_below_drewN | apply below_drew1 | refine below_set ?_ GE557.out) | exact HB.out)⟩
          · rw [if_neg c43] at H
            have c43b0 : (t561 == t563) = false := beq_eq_false_iff_ne.mpr c43
            have c43b1 : (t561 != t563) = true := bne_iff_ne.mpr c43
            exact absurd (H.trans (congrArg some HT)) (by decide)
        · rw [if_neg c42] at H
          have c42b0 : (t560 == t562) = false := beq_eq_false_iff_ne.mpr c42
          have c42b1 : (t560 != t562) = true := bne_iff_ne.mpr c42
          exact absurd (H.trans (congrArg some HT)) (by decide)

end Go.Proofs.Ytoncignjcgjhhaa.Q
