/- Contracts of functions of the seat's program: each Go function's Lean function and its walk, written by a program of this session over the kit's print. Not trusted: Lean checks it. -/
import Derived.Test.YtoncignjcgjhhaaZGA
import Derived.Test.YtoncignjcgjhhaaZGK
import Derived.Test.YtoncignjcgjhhaaZGL
import Derived.Test.YtoncignjcgjhhaaZGM
import Derived.Test.YtoncignjcgjhhaaZQx52
set_option linter.unusedVariables false
set_option linter.unusedSimpArgs false
namespace Go.Proofs.Ytoncignjcgjhhaa.Q
open Go.RowKit Go.Proofs.YtoncignjcgjhhaaW.PrintWords Go.Proofs.YtoncignjcgjhhaaW.PrintLast Go.Proofs.YtoncignjcgjhhaaW.PrintMore
attribute [local go_sem] max2_int min2_int max_two min_two max_three min_three max_four min_four   -- for this text's walks alone
set_option linter.unusedVariables false
set_option linter.unusedSimpArgs false

/-! ### tenorlaw6_CalAdds: function 10 -/
def tenorlaw6_CalAdds.j0 : Nat → Int → Int → Bool → Int → List (S63) → Option (Bool)
  | 0, _, _, _, _, _ => none
  | k + 1, x1, x2, x27, x550000, x550001 => if x27 = true then ((tenorlaw6_awake.f).bind fun t551 => (some t551)) else ((cal_Add.f x550000 x550001 x1 x2).bind fun bt552 => ((tenorref6_Add.f k x550000 x550001 x1 x2).bind fun bt554 => (if bt552.1 = bt554.1 then (if bt552.2 = bt554.2 then ((tenorlaw6_awake.f).bind fun t556 => (some t556)) else (some false)) else (some false))))
def tenorlaw6_CalAdds.f (k : Nat) (a0_0 : Int) (l0_1 : List (S63)) (a1 : Int) (a2 : Int) : Option (Bool) := (tenorlaw6_Few.f a0_0 l0_1).bind fun t550 => (if t550 = true then (if (l0_1.length : Int) > 0 then (if a2 > 400 then (tenorlaw6_CalAdds.j0 k a1 a2 true a0_0 l0_1) else (tenorlaw6_CalAdds.j0 k a1 a2 (decide (a2 < (-400))) a0_0 l0_1)) else (tenorlaw6_CalAdds.j0 k a1 a2 false a0_0 l0_1)) else (tenorlaw6_CalAdds.j0 k a1 a2 true a0_0 l0_1))
theorem tenorlaw6_CalAdds.mono_l : ∀ k, (∀ y0 y1 y2 y3 y4, LeO (tenorlaw6_CalAdds.j0 k y0 y1 y2 y3 y4) (tenorlaw6_CalAdds.j0 (k + 1) y0 y1 y2 y3 y4))
  | 0 => fun _ _ _ _ _ r h => by simp [tenorlaw6_CalAdds.j0] at h
  | k + 1 => by
    have ih0 := tenorlaw6_CalAdds.mono_l k
    · intro y0 y1 y2 y3 y4
      unfold tenorlaw6_CalAdds.j0
      repeat' first
      | (with_reducible exact ih0 _ _ _ _ _)
      | (with_reducible exact tenorref6_Add.mono _ _ _ _ _)
      | (with_reducible exact LeO.refl _)
      | (with_reducible exact LeO.none _)
      | (with_reducible refine LeO.ite ?_ ?_)
      | (with_reducible refine LeO.bind ?_ (fun _ => ?_))
      | exact ih0 _ _ _ _ _
      | exact tenorref6_Add.mono _ _ _ _ _
      | exact LeO.none _
      | refine LeO.ite ?_ ?_
      | refine LeO.bind ?_ (fun _ => ?_)
theorem tenorlaw6_CalAdds.mono : ∀ a0 a1 a2 a3 k, LeO (tenorlaw6_CalAdds.f k a0 a1 a2 a3) (tenorlaw6_CalAdds.f (k + 1) a0 a1 a2 a3) := by
  intro a0 a1 a2 a3 k
  have ih0 := tenorlaw6_CalAdds.mono_l k
  unfold tenorlaw6_CalAdds.f
  repeat' first
      | (with_reducible exact ih0 _ _ _ _ _)
      | (with_reducible exact tenorref6_Add.mono _ _ _ _ _)
      | (with_reducible exact LeO.refl _)
      | (with_reducible exact LeO.none _)
      | (with_reducible refine LeO.ite ?_ ?_)
      | (with_reducible refine LeO.bind ?_ (fun _ => ?_))
      | exact ih0 _ _ _ _ _
      | exact tenorref6_Add.mono _ _ _ _ _
      | exact LeO.none _
      | refine LeO.ite ?_ ?_
      | refine LeO.bind ?_ (fun _ => ?_)
set_option maxHeartbeats 8000000 in
set_option maxRecDepth 100000 in
theorem tenorlaw6_CalAdds.calls (k : Nat) (a0_0 : Int) (A0_1 : Option Addr) (c0_1 : Nat) (l0_1 : List (S63)) (a1 : Int) (a2 : Int) (r : Bool) (w : World) (hr0_1 : Kd.C k63 w A0_1 l0_1.length l0_1) (hc0_1 : l0_1.length ≤ c0_1) (h : tenorlaw6_CalAdds.f k a0_0 l0_1 a1 a2 = some r) (HT : r = true) :
    Calls Try.prog 10 #[.agg #[.int .i64 a0_0, .slice A0_1 l0_1.length c0_1], .int .i64 a1, .int .i64 a2] w fun e w' => e = .returned (.bool r) ∧ Below w.heap.size w w' := by
  have hu24 := Try.underlying24
  have HR0_1 := Aside0.mk hr0_1
  have HC0_1 := Aside0.mk hc0_1
  clear hr0_1 hc0_1
  have HB := Aside0.mk (Below.refl w.heap.size w)
  have H : ((tenorlaw6_Few.f a0_0 l0_1).bind fun t550 => (if t550 = true then (if (l0_1.length : Int) > 0 then (if a2 > 400 then (tenorlaw6_CalAdds.j0 k a1 a2 true a0_0 l0_1) else (tenorlaw6_CalAdds.j0 k a1 a2 (decide (a2 < (-400))) a0_0 l0_1)) else (tenorlaw6_CalAdds.j0 k a1 a2 false a0_0 l0_1)) else (tenorlaw6_CalAdds.j0 k a1 a2 true a0_0 l0_1))) = some r := h
  clear h
  have HC4 := Aside0.mk H
  clear H
  go_enter Try.func10, Try.ntmps10
  go_upto_region 1 with (first | ((with_reducible refine gate_dst (N := 3) rfl ?_); (try (refine gate_guard (by rfl) ?_; dsimp only)); refine box_event ?hg (N := 3) ?hd (cs := #[.int .i64 a0_0, .slice A0_1 l0_1.length c0_1]) (t := 24) ?hr ?_; (case hd => rfl); (case hg => rfl); (case hr => first | (go_simp; done) | (go_simp; rfl)); intro gb549 hg w5 hbox hb; have n0_ := Aside0.mk (below_step (by repeat (first | (with_reducible first | exact HB.out | apply below_alloc | apply pw_below_drewN | apply below_drew1) | exact HB.out)) hb); have n1_ := Aside0.mk (hbox); have n2_ := Aside0.mk ((by rw [hg]; exact (below_size (by repeat (first | (with_reducible first | exact HB.out | apply below_alloc | apply pw_below_drewN | apply below_drew1) | exact HB.out))) : w.heap.size ≤ gb549)); have n3_ := Aside0.mk ((by rw [hg]; exact (below_size (by repeat (first | (with_reducible first | exact HB.out | apply below_alloc | apply pw_below_drewN | apply below_drew1) | exact HB.out))) : w.heap.size ≤ gb549)); clear HB; have HB := n0_; have BK549 := n1_; have GW549 := n2_; have GE549 := n3_; clear n0_ n1_ n2_ n3_; clear hb hbox hg))
  (try simp only [Act.put, List.setIfInBounds_toArray, List.set_cons_zero, List.set_cons_succ])
  go_cut [27] (fun v27 wc => ∃ (kq : Nat) (x27_3 : Bool), v27 = .bool x27_3 ∧ Aside0 (tenorlaw6_CalAdds.j0 kq a1 a2 x27_3 a0_0 l0_1 = some r) ∧ Aside0 (kq ≤ k) ∧ Aside0 (wc.heap[gb549]? = some (.cells #[.int .i64 a0_0, (.slice A0_1 l0_1.length c0_1)] 24 (0, 0))) ∧ Aside0 (Below w.heap.size w wc))
  case first =>
    have H := HC4.out
    clear HC4
    replace H := Option.bind_eq_some_iff.mp H
    obtain ⟨t550, A60, H⟩ := H
    replace H : (if t550 = true then (if (l0_1.length : Int) > 0 then (if a2 > 400 then (tenorlaw6_CalAdds.j0 k a1 a2 true a0_0 l0_1) else (tenorlaw6_CalAdds.j0 k a1 a2 (decide (a2 < (-400))) a0_0 l0_1)) else (tenorlaw6_CalAdds.j0 k a1 a2 false a0_0 l0_1)) else (tenorlaw6_CalAdds.j0 k a1 a2 true a0_0 l0_1)) = some r := H
    have A6 := Aside0.mk A60
    clear A60
    by_cases c7 : t550 = true
    · subst c7
      have H1 : (if (l0_1.length : Int) > 0 then (if a2 > 400 then (tenorlaw6_CalAdds.j0 k a1 a2 true a0_0 l0_1) else (tenorlaw6_CalAdds.j0 k a1 a2 (decide (a2 < (-400))) a0_0 l0_1)) else (tenorlaw6_CalAdds.j0 k a1 a2 false a0_0 l0_1)) = some r := by rw [if_pos rfl] at H; exact H
      clear H
      have H := H1
      clear H1
      by_cases c8 : (l0_1.length : Int) > 0
      · rw [if_pos c8] at H
        have c8b0 : decide (0 < (l0_1.length : Int)) = true := decide_eq_true c8
        have c8b1 : decide (0 < l0_1.length) = true := decide_eq_true (by omega)
        clear c8
        (first | rw [c8b0] | (simp only [i64_w, i32_w]; rw [c8b0]) | skip)
        by_cases c9 : a2 > 400
        · rw [if_pos c9] at H
          have c9b0 : decide (400 < a2) = true := decide_eq_true c9
          clear c9
          have H' := Aside0.mk H
          clear H
          have hcz10_0 : w5.cell? ⟨gb549, 0, none⟩ = some (.int .i64 a0_0) := (blk_cell BK549.out 0).trans rfl
          have hcz10_1 : w5.cell? ⟨gb549, 1, none⟩ = some (.slice A0_1 l0_1.length c0_1) := (blk_cell BK549.out 1).trans rfl
          have hfz10_0 := blk_frozen BK549.out 0
          have hfz10_1 := blk_frozen BK549.out 1
          go_wp2_with (first | ((with_reducible refine gate_callee (f := 37) rfl ?_); refine goesL_ (some 12) rfl rfl Try.func37 (by kernel_rfl) rfl #[.agg #[.int .i64 a0_0, .slice A0_1 l0_1.length c0_1]] rfl (by (try simp only [List.map_toArray, List.map_cons, List.map_nil]); first | done | rfl | (simp only [List.length_drop, List.length_take]; rfl)) ?_; (with_reducible refine (tenorlaw6_Few.calls a0_0 _ _ l0_1 true _ ?side1 ?side2 A6.out).mono ?_); (case side1 => repeat (first | exact (Kd.C_below HR0_1.out HB.out) | (with_reducible refine Kd.C_alloc ?_ _) | (with_reducible refine Kd.C_drewN ?_ _) | (with_reducible refine Kd.C_drew ?_))); (case side2 => exact HC0_1.out); rintro e w11 ⟨rfl, hb⟩; refine ⟨_, rfl, ?_⟩; have n0_ := Aside0.mk (blk_below (g := gb549) (o := .cells #[.int .i64 a0_0, .slice A0_1 l0_1.length c0_1] 24 (0, 0)) (by (with_reducible repeat (first | refine blk_drewN ?_ _ | refine blk_drew ?_ | refine blk_alloc ?_ _)); exact BK549.out) hb); have n1_ := Aside0.mk (below_step (by repeat (first | (with_reducible first | exact HB.out | apply below_alloc | apply pw_below_drewN | apply below_drew1 | refine below_set ?_ GE549.out) | exact HB.out)) hb); clear BK549; clear HB; have BK549 := n0_; have HB := n1_; clear n0_ n1_; (try clear hb); (try clear hb2); (try clear hk); (try clear hi); have hcz12_0 : w11.cell? ⟨gb549, 0, none⟩ = some (.int .i64 a0_0) := (blk_cell BK549.out 0).trans rfl; have hcz12_1 : w11.cell? ⟨gb549, 1, none⟩ = some (.slice A0_1 l0_1.length c0_1) := (blk_cell BK549.out 1).trans rfl; have hfz12_0 := blk_frozen BK549.out 0; have hfz12_1 := blk_frozen BK549.out 1))
          go_meet
          case rel => exact ⟨_, (true), (by first | rfl | (simp; done) | (simp [*]; done)), H', ⟨by first | omega | exact Nat.le_refl _⟩, ⟨by (with_reducible repeat (first | refine blk_drewN ?_ _ | refine blk_drew ?_ | refine blk_alloc ?_ _)); exact BK549.out⟩, ⟨by repeat (first | (with_reducible first | exact HB.out | apply below_alloc | apply pw_below_drewN | apply below_drew1 | refine below_set ?_ GE549.out) | exact HB.out)⟩⟩
        · rw [if_neg c9] at H
          have c9b0 : decide (400 < a2) = false := decide_eq_false c9
          clear c9
          have H' := Aside0.mk H
          clear H
          have hcz13_0 : w5.cell? ⟨gb549, 0, none⟩ = some (.int .i64 a0_0) := (blk_cell BK549.out 0).trans rfl
          have hcz13_1 : w5.cell? ⟨gb549, 1, none⟩ = some (.slice A0_1 l0_1.length c0_1) := (blk_cell BK549.out 1).trans rfl
          have hfz13_0 := blk_frozen BK549.out 0
          have hfz13_1 := blk_frozen BK549.out 1
          go_wp2_with (first | ((with_reducible refine gate_callee (f := 37) rfl ?_); refine goesL_ (some 12) rfl rfl Try.func37 (by kernel_rfl) rfl #[.agg #[.int .i64 a0_0, .slice A0_1 l0_1.length c0_1]] rfl (by (try simp only [List.map_toArray, List.map_cons, List.map_nil]); first | done | rfl | (simp only [List.length_drop, List.length_take]; rfl)) ?_; (with_reducible refine (tenorlaw6_Few.calls a0_0 _ _ l0_1 true _ ?side1 ?side2 A6.out).mono ?_); (case side1 => repeat (first | exact (Kd.C_below HR0_1.out HB.out) | (with_reducible refine Kd.C_alloc ?_ _) | (with_reducible refine Kd.C_drewN ?_ _) | (with_reducible refine Kd.C_drew ?_))); (case side2 => exact HC0_1.out); rintro e w14 ⟨rfl, hb⟩; refine ⟨_, rfl, ?_⟩; have n0_ := Aside0.mk (blk_below (g := gb549) (o := .cells #[.int .i64 a0_0, .slice A0_1 l0_1.length c0_1] 24 (0, 0)) (by (with_reducible repeat (first | refine blk_drewN ?_ _ | refine blk_drew ?_ | refine blk_alloc ?_ _)); exact BK549.out) hb); have n1_ := Aside0.mk (below_step (by repeat (first | (with_reducible first | exact HB.out | apply below_alloc | apply pw_below_drewN | apply below_drew1 | refine below_set ?_ GE549.out) | exact HB.out)) hb); clear BK549; clear HB; have BK549 := n0_; have HB := n1_; clear n0_ n1_; (try clear hb); (try clear hb2); (try clear hk); (try clear hi); have hcz15_0 : w14.cell? ⟨gb549, 0, none⟩ = some (.int .i64 a0_0) := (blk_cell BK549.out 0).trans rfl; have hcz15_1 : w14.cell? ⟨gb549, 1, none⟩ = some (.slice A0_1 l0_1.length c0_1) := (blk_cell BK549.out 1).trans rfl; have hfz15_0 := blk_frozen BK549.out 0; have hfz15_1 := blk_frozen BK549.out 1))
          go_meet
          case rel => exact ⟨_, (decide (a2 < (-400))), (by first | rfl | (simp; done) | (simp [*]; done)), H', ⟨by first | omega | exact Nat.le_refl _⟩, ⟨by (with_reducible repeat (first | refine blk_drewN ?_ _ | refine blk_drew ?_ | refine blk_alloc ?_ _)); exact BK549.out⟩, ⟨by repeat (first | (with_reducible first | exact HB.out | apply below_alloc | apply pw_below_drewN | apply below_drew1 | refine below_set ?_ GE549.out) | exact HB.out)⟩⟩
      · rw [if_neg c8] at H
        have c8b0 : decide (0 < (l0_1.length : Int)) = false := decide_eq_false c8
        have c8b1 : decide (0 < l0_1.length) = false := decide_eq_false (by omega)
        clear c8
        (first | rw [c8b0] | (simp only [i64_w, i32_w]; rw [c8b0]) | skip)
        have H' := Aside0.mk H
        clear H
        have hcz16_0 : w5.cell? ⟨gb549, 0, none⟩ = some (.int .i64 a0_0) := (blk_cell BK549.out 0).trans rfl
        have hcz16_1 : w5.cell? ⟨gb549, 1, none⟩ = some (.slice A0_1 l0_1.length c0_1) := (blk_cell BK549.out 1).trans rfl
        have hfz16_0 := blk_frozen BK549.out 0
        have hfz16_1 := blk_frozen BK549.out 1
        go_wp2_with (first | ((with_reducible refine gate_callee (f := 37) rfl ?_); refine goesL_ (some 12) rfl rfl Try.func37 (by kernel_rfl) rfl #[.agg #[.int .i64 a0_0, .slice A0_1 l0_1.length c0_1]] rfl (by (try simp only [List.map_toArray, List.map_cons, List.map_nil]); first | done | rfl | (simp only [List.length_drop, List.length_take]; rfl)) ?_; (with_reducible refine (tenorlaw6_Few.calls a0_0 _ _ l0_1 true _ ?side1 ?side2 A6.out).mono ?_); (case side1 => repeat (first | exact (Kd.C_below HR0_1.out HB.out) | (with_reducible refine Kd.C_alloc ?_ _) | (with_reducible refine Kd.C_drewN ?_ _) | (with_reducible refine Kd.C_drew ?_))); (case side2 => exact HC0_1.out); rintro e w17 ⟨rfl, hb⟩; refine ⟨_, rfl, ?_⟩; have n0_ := Aside0.mk (blk_below (g := gb549) (o := .cells #[.int .i64 a0_0, .slice A0_1 l0_1.length c0_1] 24 (0, 0)) (by (with_reducible repeat (first | refine blk_drewN ?_ _ | refine blk_drew ?_ | refine blk_alloc ?_ _)); exact BK549.out) hb); have n1_ := Aside0.mk (below_step (by repeat (first | (with_reducible first | exact HB.out | apply below_alloc | apply pw_below_drewN | apply below_drew1 | refine below_set ?_ GE549.out) | exact HB.out)) hb); clear BK549; clear HB; have BK549 := n0_; have HB := n1_; clear n0_ n1_; (try clear hb); (try clear hb2); (try clear hk); (try clear hi); have hcz18_0 : w17.cell? ⟨gb549, 0, none⟩ = some (.int .i64 a0_0) := (blk_cell BK549.out 0).trans rfl; have hcz18_1 : w17.cell? ⟨gb549, 1, none⟩ = some (.slice A0_1 l0_1.length c0_1) := (blk_cell BK549.out 1).trans rfl; have hfz18_0 := blk_frozen BK549.out 0; have hfz18_1 := blk_frozen BK549.out 1))
        go_meet
        case rel => exact ⟨_, (false), (by first | rfl | (simp; done) | (simp [*]; done)), H', ⟨by first | omega | exact Nat.le_refl _⟩, ⟨by (with_reducible repeat (first | refine blk_drewN ?_ _ | refine blk_drew ?_ | refine blk_alloc ?_ _)); exact BK549.out⟩, ⟨by repeat (first | (with_reducible first | exact HB.out | apply below_alloc | apply pw_below_drewN | apply below_drew1 | refine below_set ?_ GE549.out) | exact HB.out)⟩⟩
    · replace c7 := Bool.eq_false_iff.mpr c7
      subst c7
      have H1 : (tenorlaw6_CalAdds.j0 k a1 a2 true a0_0 l0_1) = some r := by rw [if_neg (show ¬ (false = true) by decide)] at H; exact H
      clear H
      have H := H1
      clear H1
      have H' := Aside0.mk H
      clear H
      have hcz19_0 : w5.cell? ⟨gb549, 0, none⟩ = some (.int .i64 a0_0) := (blk_cell BK549.out 0).trans rfl
      have hcz19_1 : w5.cell? ⟨gb549, 1, none⟩ = some (.slice A0_1 l0_1.length c0_1) := (blk_cell BK549.out 1).trans rfl
      have hfz19_0 := blk_frozen BK549.out 0
      have hfz19_1 := blk_frozen BK549.out 1
      go_wp2_with (first | ((with_reducible refine gate_callee (f := 37) rfl ?_); refine goesL_ (some 12) rfl rfl Try.func37 (by kernel_rfl) rfl #[.agg #[.int .i64 a0_0, .slice A0_1 l0_1.length c0_1]] rfl (by (try simp only [List.map_toArray, List.map_cons, List.map_nil]); first | done | rfl | (simp only [List.length_drop, List.length_take]; rfl)) ?_; (with_reducible refine (tenorlaw6_Few.calls a0_0 _ _ l0_1 false _ ?side1 ?side2 A6.out).mono ?_); (case side1 => repeat (first | exact (Kd.C_below HR0_1.out HB.out) | (with_reducible refine Kd.C_alloc ?_ _) | (with_reducible refine Kd.C_drewN ?_ _) | (with_reducible refine Kd.C_drew ?_))); (case side2 => exact HC0_1.out); rintro e w20 ⟨rfl, hb⟩; refine ⟨_, rfl, ?_⟩; have n0_ := Aside0.mk (blk_below (g := gb549) (o := .cells #[.int .i64 a0_0, .slice A0_1 l0_1.length c0_1] 24 (0, 0)) (by (with_reducible repeat (first | refine blk_drewN ?_ _ | refine blk_drew ?_ | refine blk_alloc ?_ _)); exact BK549.out) hb); have n1_ := Aside0.mk (below_step (by repeat (first | (with_reducible first | exact HB.out | apply below_alloc | apply pw_below_drewN | apply below_drew1 | refine below_set ?_ GE549.out) | exact HB.out)) hb); clear BK549; clear HB; have BK549 := n0_; have HB := n1_; clear n0_ n1_; (try clear hb); (try clear hb2); (try clear hk); (try clear hi)))
      go_meet
      case rel => exact ⟨_, (true), (by first | rfl | (simp; done) | (simp [*]; done)), H', ⟨by first | omega | exact Nat.le_refl _⟩, ⟨by (with_reducible repeat (first | refine blk_drewN ?_ _ | refine blk_drew ?_ | refine blk_alloc ?_ _)); exact BK549.out⟩, ⟨by repeat (first | (with_reducible first | exact HB.out | apply below_alloc | apply pw_below_drewN | apply below_drew1 | refine below_set ?_ GE549.out) | exact HB.out)⟩⟩
  case rest =>
    clear HC4
    try clear c1
    try clear p2
    try clear c3
    try clear c7
    try clear c8
    try clear c8b0
    try clear c8b1
    try clear c9
    try clear c9b0
    try clear c10
    try clear hcz10_0
    try clear hcz10_1
    try clear hcz12_0
    try clear hcz12_1
    try clear hcz13_0
    try clear hcz13_1
    try clear hcz15_0
    try clear hcz15_1
    try clear hcz16_0
    try clear hcz16_1
    try clear hcz18_0
    try clear hcz18_1
    try clear hcz19_0
    try clear hcz19_1
    try clear hfz10_0
    try clear hfz10_1
    try clear hfz12_0
    try clear hfz12_1
    try clear hfz13_0
    try clear hfz13_1
    try clear hfz15_0
    try clear hfz15_1
    try clear hfz16_0
    try clear hfz16_1
    try clear hfz18_0
    try clear hfz18_1
    try clear hfz19_0
    try clear hfz19_1
    obtain ⟨kq, x27_3, rfl, HA, HJ3, BK549, HB⟩ := hcut
    cases kq with
    | zero => exact absurd HA.out (by simp [tenorlaw6_CalAdds.j0])
    | succ kj3 =>
      have H := HA.out
      clear HA
      simp only [tenorlaw6_CalAdds.j0] at H
      by_cases c21 : x27_3 = true
      · subst c21
        have H1 : ((tenorlaw6_awake.f).bind fun t551 => (some t551)) = some r := by rw [if_pos rfl] at H; exact H
        clear H
        have H := H1
        clear H1
        replace H := Option.bind_eq_some_iff.mp H
        obtain ⟨t551, A220, H⟩ := H
        replace H : (some t551) = some r := H
        have A22 := Aside0.mk A220
        clear A220
        obtain rfl := Option.some.inj H
        go_wp2_with (first | ((with_reducible refine gate_callee (f := 32) rfl ?_); refine goesL_ (some 28) rfl rfl Try.func32 (by kernel_rfl) rfl #[] rfl (by (try simp only [List.map_toArray, List.map_cons, List.map_nil]); first | done | rfl | (simp only [List.length_drop, List.length_take]; rfl)) ?_; (with_reducible refine (tenorlaw6_awake.calls  t551 _ A22.out).mono ?_); rintro e w23 ⟨rfl, hb⟩; refine ⟨_, rfl, ?_⟩; have n0_ := Aside0.mk (blk_below (g := gb549) (o := .cells #[.int .i64 a0_0, .slice A0_1 l0_1.length c0_1] 24 (0, 0)) (by (with_reducible repeat (first | refine blk_drewN ?_ _ | refine blk_drew ?_ | refine blk_alloc ?_ _)); exact BK549.out) hb); have n1_ := Aside0.mk (below_step (by repeat (first | (with_reducible first | exact HB.out | apply below_alloc | apply pw_below_drewN | apply below_drew1 | refine below_set ?_ GE549.out) | exact HB.out)) hb); clear BK549; clear HB; have BK549 := n0_; have HB := n1_; clear n0_ n1_; (try clear hb); (try clear hb2); (try clear hk); (try clear hi)))
        go_ret
        exact ⟨by first | rfl | (simp [errW_none, errW_some] <;> rfl) | (simp [*, errW_none, errW_some] <;> rfl), by repeat (first | (with_reducible first | exact HB.out | apply below_alloc | apply pw_below_drewN | apply below_drew1 | refine below_set ?_ GE549.out) | exact HB.out)⟩
      · replace c21 := Bool.eq_false_iff.mpr c21
        subst c21
        have H1 : ((cal_Add.f a0_0 l0_1 a1 a2).bind fun bt552 => ((tenorref6_Add.f kj3 a0_0 l0_1 a1 a2).bind fun bt554 => (if bt552.1 = bt554.1 then (if bt552.2 = bt554.2 then ((tenorlaw6_awake.f).bind fun t556 => (some t556)) else (some false)) else (some false)))) = some r := by rw [if_neg (show ¬ (false = true) by decide)] at H; exact H
        clear H
        have H := H1
        clear H1
        replace H := Option.bind_eq_some_iff.mp H
        obtain ⟨⟨t552, t553⟩, A240, H⟩ := H
        replace H : ((tenorref6_Add.f kj3 a0_0 l0_1 a1 a2).bind fun bt554 => (if t552 = bt554.1 then (if t553 = bt554.2 then ((tenorlaw6_awake.f).bind fun t556 => (some t556)) else (some false)) else (some false))) = some r := H
        have A24 := Aside0.mk A240
        clear A240
        replace H := Option.bind_eq_some_iff.mp H
        obtain ⟨⟨t554, t555⟩, A250, H⟩ := H
        replace H : (if t552 = t554 then (if t553 = t555 then ((tenorlaw6_awake.f).bind fun t556 => (some t556)) else (some false)) else (some false)) = some r := H
        have A25 := Aside0.mk A250
        clear A250
        by_cases c26 : t552 = t554
        · rw [if_pos c26] at H
          have c26b0 : (t552 == t554) = true := beq_iff_eq.mpr c26
          have c26b1 : (t552 != t554) = false := bne_eq_false_iff_eq.mpr c26
          clear c26
          by_cases c27 : t553 = t555
          · rw [if_pos c27] at H
            have c27b0 : (t553 == t555) = true := beq_iff_eq.mpr c27
            have c27b1 : (t553 != t555) = false := bne_eq_false_iff_eq.mpr c27
            clear c27
            replace H := Option.bind_eq_some_iff.mp H
            obtain ⟨t556, A280, H⟩ := H
            replace H : (some t556) = some r := H
            have A28 := Aside0.mk A280
            clear A280
            obtain rfl := Option.some.inj H
            have hcz29_0 : wc.cell? ⟨gb549, 0, none⟩ = some (.int .i64 a0_0) := (blk_cell BK549.out 0).trans rfl
            have hcz29_1 : wc.cell? ⟨gb549, 1, none⟩ = some (.slice A0_1 l0_1.length c0_1) := (blk_cell BK549.out 1).trans rfl
            have hfz29_0 := blk_frozen BK549.out 0
            have hfz29_1 := blk_frozen BK549.out 1
            go_wp2_with (first | ((with_reducible refine gate_callee (f := 40) rfl ?_); refine goesL_ (some 33) rfl rfl Try.func40 (by kernel_rfl) rfl #[.agg #[.int .i64 a0_0, .slice A0_1 l0_1.length c0_1], .int .i64 a1, .int .i64 a2] rfl (by (try simp only [List.map_toArray, List.map_cons, List.map_nil]); first | done | rfl | (simp only [List.length_drop, List.length_take]; rfl)) ?_; (with_reducible refine (cal_Add.calls a0_0 _ _ l0_1 a1 a2 t552 t553 _ ?side1 ?side2 A24.out).mono ?_); (case side1 => repeat (first | exact (Kd.C_below HR0_1.out HB.out) | (with_reducible refine Kd.C_alloc ?_ _) | (with_reducible refine Kd.C_drewN ?_ _) | (with_reducible refine Kd.C_drew ?_))); (case side2 => exact HC0_1.out); rintro e w30 ⟨rfl, hb⟩; refine ⟨_, rfl, ?_⟩; have n0_ := Aside0.mk (blk_below (g := gb549) (o := .cells #[.int .i64 a0_0, .slice A0_1 l0_1.length c0_1] 24 (0, 0)) (by (with_reducible repeat (first | refine blk_drewN ?_ _ | refine blk_drew ?_ | refine blk_alloc ?_ _)); exact BK549.out) hb); have n1_ := Aside0.mk (below_step (by repeat (first | (with_reducible first | exact HB.out | apply below_alloc | apply pw_below_drewN | apply below_drew1 | refine below_set ?_ GE549.out) | exact HB.out)) hb); clear BK549; clear HB; have BK549 := n0_; have HB := n1_; clear n0_ n1_; (try clear hb); (try clear hb2); (try clear hk); (try clear hi); have hcz31_0 : w30.cell? ⟨gb549, 0, none⟩ = some (.int .i64 a0_0) := (blk_cell BK549.out 0).trans rfl; have hcz31_1 : w30.cell? ⟨gb549, 1, none⟩ = some (.slice A0_1 l0_1.length c0_1) := (blk_cell BK549.out 1).trans rfl; have hfz31_0 := blk_frozen BK549.out 0; have hfz31_1 := blk_frozen BK549.out 1) | ((with_reducible refine gate_callee (f := 41) rfl ?_); refine goesL_ (some 40) rfl rfl Try.func41 (by kernel_rfl) rfl #[.agg #[.int .i64 a0_0, .slice A0_1 l0_1.length c0_1], .int .i64 a1, .int .i64 a2] rfl (by (try simp only [List.map_toArray, List.map_cons, List.map_nil]); first | done | rfl | (simp only [List.length_drop, List.length_take]; rfl)) ?_; (with_reducible refine (tenorref6_Add.calls kj3 a0_0 _ _ l0_1 a1 a2 t554 t555 _ ?side1 ?side2 A25.out).mono ?_); (case side1 => repeat (first | exact (Kd.C_below HR0_1.out HB.out) | (with_reducible refine Kd.C_alloc ?_ _) | (with_reducible refine Kd.C_drewN ?_ _) | (with_reducible refine Kd.C_drew ?_))); (case side2 => exact HC0_1.out); rintro e w32 ⟨rfl, hb⟩; refine ⟨_, rfl, ?_⟩; have n0_ := Aside0.mk (blk_below (g := gb549) (o := .cells #[.int .i64 a0_0, .slice A0_1 l0_1.length c0_1] 24 (0, 0)) (by (with_reducible repeat (first | refine blk_drewN ?_ _ | refine blk_drew ?_ | refine blk_alloc ?_ _)); exact BK549.out) hb); have n1_ := Aside0.mk (below_step (by repeat (first | (with_reducible first | exact HB.out | apply below_alloc | apply pw_below_drewN | apply below_drew1 | refine below_set ?_ GE549.out) | exact HB.out)) hb); clear BK549; clear HB; have BK549 := n0_; have HB := n1_; clear n0_ n1_; (try clear hb); (try clear hb2); (try clear hk); (try clear hi)) | (go_at_call 32; (with_reducible refine (tenorlaw6_awake.calls  t556 _ A28.out).mono ?_); rintro e w33 ⟨rfl, hb⟩; have n0_ := Aside0.mk (blk_below (g := gb549) (o := .cells #[.int .i64 a0_0, .slice A0_1 l0_1.length c0_1] 24 (0, 0)) (by (with_reducible repeat (first | refine blk_drewN ?_ _ | refine blk_drew ?_ | refine blk_alloc ?_ _)); exact BK549.out) hb); have n1_ := Aside0.mk (below_step (by repeat (first | (with_reducible first | exact HB.out | apply below_alloc | apply pw_below_drewN | apply below_drew1 | refine below_set ?_ GE549.out) | exact HB.out)) hb); clear BK549; clear HB; have BK549 := n0_; have HB := n1_; clear n0_ n1_; (try clear hb); (try clear hb2); (try clear hk); (try clear hi)))
            go_ret
            exact ⟨by first | rfl | (simp [errW_none, errW_some] <;> rfl) | (simp [*, errW_none, errW_some] <;> rfl), by repeat (first | (with_reducible first | exact HB.out | apply below_alloc | apply pw_below_drewN | apply below_drew1 | refine below_set ?_ GE549.out) | exact HB.out)⟩
          · rw [if_neg c27] at H
            have c27b0 : (t553 == t555) = false := beq_eq_false_iff_ne.mpr c27
            have c27b1 : (t553 != t555) = true := bne_iff_ne.mpr c27
            exact absurd (H.trans (congrArg some HT)) (by decide)
        · rw [if_neg c26] at H
          have c26b0 : (t552 == t554) = false := beq_eq_false_iff_ne.mpr c26
          have c26b1 : (t552 != t554) = true := bne_iff_ne.mpr c26
          exact absurd (H.trans (congrArg some HT)) (by decide)

end Go.Proofs.Ytoncignjcgjhhaa.Q
