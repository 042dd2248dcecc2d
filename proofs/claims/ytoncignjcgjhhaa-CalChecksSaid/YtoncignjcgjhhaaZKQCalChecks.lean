/- Contracts of functions of the seat's program: each Go function's Lean function and its walk, written by a program of this session over the kit's print. Not trusted: Lean checks it. -/
import Derived.Test.YtoncignjcgjhhaaZGA
import Derived.Test.YtoncignjcgjhhaaZGF
import Derived.Test.YtoncignjcgjhhaaZGG
import Derived.Test.YtoncignjcgjhhaaZKQx44
import Derived.Test.YtoncignjcgjhhaaZKQx45
import Derived.Test.YtoncignjcgjhhaaZKQx47
import Derived.Test.YtoncignjcgjhhaaZKQx48
import Derived.Test.YtoncignjcgjhhaaZKQx49a
import Derived.Test.YtoncignjcgjhhaaZKQx58
import Derived.Test.YtoncignjcgjhhaaZKQx59
import Derived.Test.YtoncignjcgjhhaaZKQx9
import Derived.Test.YtoncignjcgjhhaaZK
set_option linter.unusedVariables false
set_option linter.unusedSimpArgs false
namespace Go.Proofs.Ytoncignjcgjhhaa.Q
open Go.RowKit Go.Proofs.YtoncignjcgjhhaaW.PrintWords Go.Proofs.YtoncignjcgjhhaaW.PrintLast Go.Proofs.YtoncignjcgjhhaaW.PrintMore
attribute [local go_sem] max2_int min2_int max_two min_two max_three min_three max_four min_four   -- for this text's walks alone
set_option linter.unusedVariables false
set_option linter.unusedSimpArgs false

/-! ### tenorlaw6_CalChecks: function 14 -/
def tenorlaw6_CalChecks.j0 : Nat → Int → Int → Int → Int → Bool → Int → List (S63) → Option (Bool)
  | 0, _, _, _, _, _, _, _ => none
  | k + 1, x1, x2, x7, x9, x47, x608000, x608001 => if x47 = true then (some false) else (if x9 = 0 then ((tenorlaw6_awake.f).bind fun t613 => (some t613)) else ((cal_Open.f x608000 x608001 x1).bind fun bt614 => ((cal_Holiday.f x608000 x608001 x1).bind fun bt616 => ((cal_Adjust.f x608000 x608001 x1 x2).bind fun bt618 => ((cal_Add.f x608000 x608001 x1 x2).bind fun bt620 => ((cal_Count.f x608000 x608001 x1 x2).bind fun bt622 => ((cal_Join.f k x608000 x608001 0 ([] : List (S63))).bind fun bt624 => ((cal_Join.f k 0 ([] : List (S63)) x608000 x608001).bind fun bt630 => (if bt614.1 = true then (some false) else (if bt616.1 = true then (some false) else (if bt618.1 = 0 then (if bt620.1 = 0 then (if bt622.1 = 0 then (if bt614.2 = x7 then (if bt616.2 = x7 then (if bt618.2 = x7 then (if bt620.2 = x7 then (if bt622.2 = x7 then (if bt624.2.2 = x7 then (if bt630.2.2 = x7 then ((tenorref6_Same.f k bt624.1 bt624.2.1 0 ([] : List (S63))).bind fun t636 => (if t636 = true then ((tenorref6_Same.f k bt630.1 bt630.2.1 0 ([] : List (S63))).bind fun t637 => (if t637 = true then ((tenorlaw6_awake.f).bind fun t638 => (some t638)) else (some false))) else (some false))) else (some false)) else (some false)) else (some false)) else (some false)) else (some false)) else (some false)) else (some false)) else (some false)) else (some false)) else (some false))))))))))))
def tenorlaw6_CalChecks.f (k : Nat) (a0_0 : Int) (l0_1 : List (S63)) (a1 : Int) (a2 : Int) : Option (Bool) := if (l0_1.length : Int) > 100 then ((tenorlaw6_awake.f).bind fun t608 => (some t608)) else ((cal_Check.f a0_0 l0_1).bind fun bt609 => ((tenorref6_Check.f k a0_0 l0_1).bind fun bt611 => (if bt609.1 = bt611.1 then (tenorlaw6_CalChecks.j0 k a1 a2 bt609.1 bt611.1 (bt609.2 != bt611.2) a0_0 l0_1) else (tenorlaw6_CalChecks.j0 k a1 a2 bt609.1 bt611.1 true a0_0 l0_1))))
theorem tenorlaw6_CalChecks.mono_l : ∀ k, (∀ y0 y1 y2 y3 y4 y5 y6, LeO (tenorlaw6_CalChecks.j0 k y0 y1 y2 y3 y4 y5 y6) (tenorlaw6_CalChecks.j0 (k + 1) y0 y1 y2 y3 y4 y5 y6))
 | 0 => fun _ _ _ _ _ _ _ r h => by simp [tenorlaw6_CalChecks.j0] at h
 | k + 1 => by
  have ih0 := tenorlaw6_CalChecks.mono_l k
  ·
   intro y0 y1 y2 y3 y4 y5 y6
   unfold tenorlaw6_CalChecks.j0
   repeat' first
   | (with_reducible exact ih0 _ _ _ _ _ _ _)
   | (with_reducible exact cal_Join.mono _ _ _ _ _)
   | (with_reducible exact tenorref6_Check.mono _ _ _)
   | (with_reducible exact tenorref6_Same.mono _ _ _ _ _)
   | (with_reducible exact LeO.refl _)
   | (with_reducible exact LeO.none _)
   | (with_reducible refine LeO.ite ?_ ?_)
   | (with_reducible refine LeO.bind ?_ (fun _ => ?_))
   | exact ih0 _ _ _ _ _ _ _
   | exact cal_Join.mono _ _ _ _ _
   | exact tenorref6_Check.mono _ _ _
   | exact tenorref6_Same.mono _ _ _ _ _
   | exact LeO.none _
   | refine LeO.ite ?_ ?_
   | refine LeO.bind ?_ (fun _ => ?_)
theorem tenorlaw6_CalChecks.mono : ∀ a0 a1 a2 a3 k, LeO (tenorlaw6_CalChecks.f k a0 a1 a2 a3) (tenorlaw6_CalChecks.f (k + 1) a0 a1 a2 a3) := by
 intro a0 a1 a2 a3 k
 have ih0 := tenorlaw6_CalChecks.mono_l k
 unfold tenorlaw6_CalChecks.f
 repeat' first
   | (with_reducible exact ih0 _ _ _ _ _ _ _)
   | (with_reducible exact cal_Join.mono _ _ _ _ _)
   | (with_reducible exact tenorref6_Check.mono _ _ _)
   | (with_reducible exact tenorref6_Same.mono _ _ _ _ _)
   | (with_reducible exact LeO.refl _)
   | (with_reducible exact LeO.none _)
   | (with_reducible refine LeO.ite ?_ ?_)
   | (with_reducible refine LeO.bind ?_ (fun _ => ?_))
   | exact ih0 _ _ _ _ _ _ _
   | exact cal_Join.mono _ _ _ _ _
   | exact tenorref6_Check.mono _ _ _
   | exact tenorref6_Same.mono _ _ _ _ _
   | exact LeO.none _
   | refine LeO.ite ?_ ?_
   | refine LeO.bind ?_ (fun _ => ?_)
set_option maxHeartbeats 8000000 in
set_option maxRecDepth 100000 in
theorem tenorlaw6_CalChecks.calls (k : Nat) (a0_0 : Int) (A0_1 : Option Addr) (c0_1 : Nat) (l0_1 : List (S63)) (a1 : Int) (a2 : Int) (r : Bool) (w : World) (hr0_1 : Kd.C k63 w A0_1 l0_1.length l0_1) (hc0_1 : l0_1.length ≤ c0_1) (h : tenorlaw6_CalChecks.f k a0_0 l0_1 a1 a2 = some r) (HT : r = true) :
  Calls Try.prog 14 #[.agg #[.int .i64 a0_0, .slice A0_1 l0_1.length c0_1], .int .i64 a1, .int .i64 a2] w fun e w' => e = .returned (.bool r) ∧ Below w.heap.size w w' := by
 have hu24 := Try.underlying24;have HR0_1 := Aside0.mk hr0_1;have HC0_1 := Aside0.mk hc0_1;clear hr0_1 hc0_1
 have HB := Aside0.mk (Below.refl w.heap.size w)
 have H : (if (l0_1.length : Int) > 100 then ((tenorlaw6_awake.f).bind fun t608 => (some t608)) else ((cal_Check.f a0_0 l0_1).bind fun bt609 => ((tenorref6_Check.f k a0_0 l0_1).bind fun bt611 => (if bt609.1 = bt611.1 then (tenorlaw6_CalChecks.j0 k a1 a2 bt609.1 bt611.1 (bt609.2 != bt611.2) a0_0 l0_1) else (tenorlaw6_CalChecks.j0 k a1 a2 bt609.1 bt611.1 true a0_0 l0_1))))) = some r := h
 clear h
 by_cases c4 : (l0_1.length : Int) > 100
 ·
  rw [if_pos c4] at H
  have c4b0 : decide (100 < (l0_1.length : Int)) = true := decide_eq_true c4
  have c4b1 : decide (100 < l0_1.length) = true := decide_eq_true (by omega)
  clear c4;replace H := Option.bind_eq_some_iff.mp H
  obtain ⟨t608, A50, H⟩ := H
  replace H : (some t608) = some r := H
  have A5 := Aside0.mk A50;clear A50
  obtain rfl := Option.some.inj H
  go_enter Try.func14, Try.ntmps14
  go_wp2_with (first | ((with_reducible refine gate_dst (N := 3) rfl ?_); refine box_event ?hg (N := 3) ?hd (cs := #[.int .i64 a0_0, .slice A0_1 l0_1.length c0_1]) (t := 24) ?hr ?_; (case hd => rfl); (case hg => rfl); (case hr => first | (go_simp; done) | (go_simp; rfl)); intro gb607 hg w6 hbox hb; have n0_ := Aside0.mk (below_step (by repeat (first | (with_reducible first | exact HB.out | apply below_alloc | apply pw_below_drewN | apply below_drew1) | exact HB.out)) hb); have n1_ := Aside0.mk (hbox); have n2_ := Aside0.mk ((by rw [hg]; exact (below_size (by repeat (first | (with_reducible first | exact HB.out | apply below_alloc | apply pw_below_drewN | apply below_drew1) | exact HB.out))) : w.heap.size ≤ gb607)); have n3_ := Aside0.mk ((by rw [hg]; exact (below_size (by repeat (first | (with_reducible first | exact HB.out | apply below_alloc | apply pw_below_drewN | apply below_drew1) | exact HB.out))) : w.heap.size ≤ gb607)); clear HB; have HB := n0_; have BK607 := n1_; have GW607 := n2_; have GE607 := n3_; clear n0_ n1_ n2_ n3_; clear hb hbox hg; have hcz7_0 : w6.cell? ⟨gb607, 0, none⟩ = some (.int .i64 a0_0) := (blk_cell BK607.out 0).trans rfl; have hcz7_1 : w6.cell? ⟨gb607, 1, none⟩ = some (.slice A0_1 l0_1.length c0_1) := (blk_cell BK607.out 1).trans rfl; have hfz7_0 := blk_frozen BK607.out 0; have hfz7_1 := blk_frozen BK607.out 1) | ((with_reducible refine gate_callee (f := 32) rfl ?_); refine goesL_ (some 29) rfl rfl Try.func32 (by kernel_rfl) rfl #[] rfl (by (try simp only [List.map_toArray, List.map_cons, List.map_nil]); first | done | rfl | (simp only [List.length_drop, List.length_take]; rfl)) ?_; (with_reducible refine (tenorlaw6_awake.calls  t608 _ A5.out).mono ?_); rintro e w8 ⟨rfl, hb⟩; refine ⟨_, rfl, ?_⟩; have n0_ := Aside0.mk (blk_below (g := gb607) (o := .cells #[.int .i64 a0_0, .slice A0_1 l0_1.length c0_1] 24 (0, 0)) (by (with_reducible repeat (first | refine blk_drewN ?_ _ | refine blk_drew ?_ | refine blk_alloc ?_ _)); exact BK607.out) hb); have n1_ := Aside0.mk (below_step (by repeat (first | (with_reducible first | exact HB.out | apply below_alloc | apply pw_below_drewN | apply below_drew1 | refine below_set ?_ GE607.out) | exact HB.out)) hb); clear BK607; clear HB; have BK607 := n0_; have HB := n1_; clear n0_ n1_; (try clear hb); (try clear hb2); (try clear hk); (try clear hi)))
  go_ret
  exact ⟨by first | rfl | (simp [errW_none, errW_some] <;> rfl) | (simp [*, errW_none, errW_some] <;> rfl), by repeat (first | (with_reducible first | exact HB.out | apply below_alloc | apply pw_below_drewN | apply below_drew1 | refine below_set ?_ GE607.out) | exact HB.out)⟩
 ·
  rw [if_neg c4] at H
  have c4b0 : decide (100 < (l0_1.length : Int)) = false := decide_eq_false c4
  have c4b1 : decide (100 < l0_1.length) = false := decide_eq_false (by omega)
  clear c4;replace H := Option.bind_eq_some_iff.mp H
  obtain ⟨⟨t609, t610⟩, A90, H⟩ := H
  replace H : ((tenorref6_Check.f k a0_0 l0_1).bind fun bt611 => (if t609 = bt611.1 then (tenorlaw6_CalChecks.j0 k a1 a2 t609 bt611.1 (t610 != bt611.2) a0_0 l0_1) else (tenorlaw6_CalChecks.j0 k a1 a2 t609 bt611.1 true a0_0 l0_1))) = some r := H
  have A9 := Aside0.mk A90;clear A90;replace H := Option.bind_eq_some_iff.mp H
  obtain ⟨⟨t611, t612⟩, A100, H⟩ := H
  replace H : (if t609 = t611 then (tenorlaw6_CalChecks.j0 k a1 a2 t609 t611 (t610 != t612) a0_0 l0_1) else (tenorlaw6_CalChecks.j0 k a1 a2 t609 t611 true a0_0 l0_1)) = some r := H
  have A10 := Aside0.mk A100;clear A100;have HC11 := Aside0.mk H;clear H
  go_enter Try.func14, Try.ntmps14
  go_upto_region 5 with (first | ((with_reducible refine gate_dst (N := 3) rfl ?_); refine box_event ?hg (N := 3) ?hd (cs := #[.int .i64 a0_0, .slice A0_1 l0_1.length c0_1]) (t := 24) ?hr ?_; (case hd => rfl); (case hg => rfl); (case hr => first | (go_simp; done) | (go_simp; rfl)); intro gb607 hg w12 hbox hb; have n0_ := Aside0.mk (below_step (by repeat (first | (with_reducible first | exact HB.out | apply below_alloc | apply pw_below_drewN | apply below_drew1) | exact HB.out)) hb); have n1_ := Aside0.mk (hbox); have n2_ := Aside0.mk ((by rw [hg]; exact (below_size (by repeat (first | (with_reducible first | exact HB.out | apply below_alloc | apply pw_below_drewN | apply below_drew1) | exact HB.out))) : w.heap.size ≤ gb607)); have n3_ := Aside0.mk ((by rw [hg]; exact (below_size (by repeat (first | (with_reducible first | exact HB.out | apply below_alloc | apply pw_below_drewN | apply below_drew1) | exact HB.out))) : w.heap.size ≤ gb607)); clear HB; have HB := n0_; have BK607 := n1_; have GW607 := n2_; have GE607 := n3_; clear n0_ n1_ n2_ n3_; clear hb hbox hg; have hcz13_0 : w12.cell? ⟨gb607, 0, none⟩ = some (.int .i64 a0_0) := (blk_cell BK607.out 0).trans rfl; have hcz13_1 : w12.cell? ⟨gb607, 1, none⟩ = some (.slice A0_1 l0_1.length c0_1) := (blk_cell BK607.out 1).trans rfl; have hfz13_0 := blk_frozen BK607.out 0; have hfz13_1 := blk_frozen BK607.out 1) | ((with_reducible refine gate_callee (f := 44) rfl ?_); refine goesL_ (some 32) rfl rfl Try.func44 (by kernel_rfl) rfl #[.agg #[.int .i64 a0_0, .slice A0_1 l0_1.length c0_1]] rfl (by (try simp only [List.map_toArray, List.map_cons, List.map_nil]); first | done | rfl | (simp only [List.length_drop, List.length_take]; rfl)) ?_; (with_reducible refine (cal_Check.calls a0_0 _ _ l0_1 t609 t610 _ ?side1 ?side2 A9.out).mono ?_); (case side1 => repeat (first | exact (Kd.C_below HR0_1.out HB.out) | (with_reducible refine Kd.C_alloc ?_ _) | (with_reducible refine Kd.C_drewN ?_ _) | (with_reducible refine Kd.C_drew ?_))); (case side2 => exact HC0_1.out); rintro e w14 ⟨rfl, hb⟩; refine ⟨_, rfl, ?_⟩; have n0_ := Aside0.mk (blk_below (g := gb607) (o := .cells #[.int .i64 a0_0, .slice A0_1 l0_1.length c0_1] 24 (0, 0)) (by (with_reducible repeat (first | refine blk_drewN ?_ _ | refine blk_drew ?_ | refine blk_alloc ?_ _)); exact BK607.out) hb); have n1_ := Aside0.mk (below_step (by repeat (first | (with_reducible first | exact HB.out | apply below_alloc | apply pw_below_drewN | apply below_drew1 | refine below_set ?_ GE607.out) | exact HB.out)) hb); clear BK607; clear HB; have BK607 := n0_; have HB := n1_; clear n0_ n1_; (try clear hb); (try clear hb2); (try clear hk); (try clear hi); have hcz15_0 : w14.cell? ⟨gb607, 0, none⟩ = some (.int .i64 a0_0) := (blk_cell BK607.out 0).trans rfl; have hcz15_1 : w14.cell? ⟨gb607, 1, none⟩ = some (.slice A0_1 l0_1.length c0_1) := (blk_cell BK607.out 1).trans rfl; have hfz15_0 := blk_frozen BK607.out 0; have hfz15_1 := blk_frozen BK607.out 1) | ((with_reducible refine gate_callee (f := 45) rfl ?_); refine goesL_ (some 37) rfl rfl Try.func45 (by kernel_rfl) rfl #[.agg #[.int .i64 a0_0, .slice A0_1 l0_1.length c0_1]] rfl (by (try simp only [List.map_toArray, List.map_cons, List.map_nil]); first | done | rfl | (simp only [List.length_drop, List.length_take]; rfl)) ?_; (with_reducible refine (tenorref6_Check.calls k a0_0 _ _ l0_1 t611 t612 _ ?side1 ?side2 A10.out).mono ?_); (case side1 => repeat (first | exact (Kd.C_below HR0_1.out HB.out) | (with_reducible refine Kd.C_alloc ?_ _) | (with_reducible refine Kd.C_drewN ?_ _) | (with_reducible refine Kd.C_drew ?_))); (case side2 => exact HC0_1.out); rintro e w16 ⟨rfl, hb⟩; refine ⟨_, rfl, ?_⟩; have n0_ := Aside0.mk (blk_below (g := gb607) (o := .cells #[.int .i64 a0_0, .slice A0_1 l0_1.length c0_1] 24 (0, 0)) (by (with_reducible repeat (first | refine blk_drewN ?_ _ | refine blk_drew ?_ | refine blk_alloc ?_ _)); exact BK607.out) hb); have n1_ := Aside0.mk (below_step (by repeat (first | (with_reducible first | exact HB.out | apply below_alloc | apply pw_below_drewN | apply below_drew1 | refine below_set ?_ GE607.out) | exact HB.out)) hb); clear BK607; clear HB; have BK607 := n0_; have HB := n1_; clear n0_ n1_; (try clear hb); (try clear hb2); (try clear hk); (try clear hi)))
  (try simp only [Act.put, List.setIfInBounds_toArray, List.set_cons_zero, List.set_cons_succ])
  go_cut [47] (fun v47 wc => ∃ (kq : Nat) (x47_10 : Bool), v47 = .bool x47_10 ∧ Aside0 (tenorlaw6_CalChecks.j0 kq a1 a2 t609 t611 x47_10 a0_0 l0_1 = some r) ∧ Aside0 (kq ≤ k) ∧ Aside0 (wc.heap[gb607]? = some (.cells #[.int .i64 a0_0, (.slice A0_1 l0_1.length c0_1)] 24 (0, 0))) ∧ Aside0 (Below w.heap.size w wc))
  case first =>
   have H := HC11.out;clear HC11
   by_cases c17 : t609 = t611
   ·
    rw [if_pos c17] at H
    have c17b0 : (t609 == t611) = true := beq_iff_eq.mpr c17
    have c17b1 : (t609 != t611) = false := bne_eq_false_iff_eq.mpr c17
    clear c17
    (first | rw [c17b0] | (simp only [i64_w, i32_w]; rw [c17b0]) | skip)
    have H' := Aside0.mk H;clear H
    go_wp2
    go_meet
    case rel => exact ⟨_, ((t610 != t612)), (by first | rfl | (simp; done) | (simp [*]; done)), H', ⟨by first | omega | exact Nat.le_refl _⟩, ⟨by (with_reducible repeat (first | refine blk_drewN ?_ _ | refine blk_drew ?_ | refine blk_alloc ?_ _)); exact BK607.out⟩, ⟨by repeat (first | (with_reducible first | exact HB.out | apply below_alloc | apply pw_below_drewN | apply below_drew1 | refine below_set ?_ GE607.out) | exact HB.out)⟩⟩
   ·
    rw [if_neg c17] at H
    have c17b0 : (t609 == t611) = false := beq_eq_false_iff_ne.mpr c17
    have c17b1 : (t609 != t611) = true := bne_iff_ne.mpr c17
    (first | rw [c17b0] | (simp only [i64_w, i32_w]; rw [c17b0]) | skip)
    have H' := Aside0.mk H;clear H
    go_wp2
    go_meet
    case rel => exact ⟨_, (true), (by first | rfl | (simp; done) | (simp [*]; done)), H', ⟨by first | omega | exact Nat.le_refl _⟩, ⟨by (with_reducible repeat (first | refine blk_drewN ?_ _ | refine blk_drew ?_ | refine blk_alloc ?_ _)); exact BK607.out⟩, ⟨by repeat (first | (with_reducible first | exact HB.out | apply below_alloc | apply pw_below_drewN | apply below_drew1 | refine below_set ?_ GE607.out) | exact HB.out)⟩⟩
  case rest =>
   clear HC11
   obtain ⟨kq, x47_10, rfl, HA, HJ10, BK607, HB⟩ := hcut
   cases kq with
   | zero => exact absurd HA.out (by simp [tenorlaw6_CalChecks.j0])
   | succ kj10 =>
    have H := HA.out;clear HA
    simp only [tenorlaw6_CalChecks.j0] at H
    by_cases c18 : x47_10 = true
    ·
     subst c18
     have H1 : (some false) = some r := by rw [if_pos rfl] at H; exact H
     clear H;have H := H1;clear H1
     exact absurd (H.trans (congrArg some HT)) (by decide)
    ·
     replace c18 := Bool.eq_false_iff.mpr c18;subst c18
     have H1 : (if t611 = 0 then ((tenorlaw6_awake.f).bind fun t613 => (some t613)) else ((cal_Open.f a0_0 l0_1 a1).bind fun bt614 => ((cal_Holiday.f a0_0 l0_1 a1).bind fun bt616 => ((cal_Adjust.f a0_0 l0_1 a1 a2).bind fun bt618 => ((cal_Add.f a0_0 l0_1 a1 a2).bind fun bt620 => ((cal_Count.f a0_0 l0_1 a1 a2).bind fun bt622 => ((cal_Join.f kj10 a0_0 l0_1 0 ([] : List (S63))).bind fun bt624 => ((cal_Join.f kj10 0 ([] : List (S63)) a0_0 l0_1).bind fun bt630 => (if bt614.1 = true then (some false) else (if bt616.1 = true then (some false) else (if bt618.1 = 0 then (if bt620.1 = 0 then (if bt622.1 = 0 then (if bt614.2 = t609 then (if bt616.2 = t609 then (if bt618.2 = t609 then (if bt620.2 = t609 then (if bt622.2 = t609 then (if bt624.2.2 = t609 then (if bt630.2.2 = t609 then ((tenorref6_Same.f kj10 bt624.1 bt624.2.1 0 ([] : List (S63))).bind fun t636 => (if t636 = true then ((tenorref6_Same.f kj10 bt630.1 bt630.2.1 0 ([] : List (S63))).bind fun t637 => (if t637 = true then ((tenorlaw6_awake.f).bind fun t638 => (some t638)) else (some false))) else (some false))) else (some false)) else (some false)) else (some false)) else (some false)) else (some false)) else (some false)) else (some false)) else (some false)) else (some false)) else (some false)))))))))))) = some r := by rw [if_neg (show ¬ (false = true) by decide)] at H; exact H
     clear H;have H := H1;clear H1
     by_cases c19 : t611 = 0
     ·
      rw [if_pos c19] at H
      have c19b0 : (t611 == 0) = true := beq_iff_eq.mpr c19
      have c19b1 : (t611 != 0) = false := bne_eq_false_iff_eq.mpr c19
      clear c19;replace H := Option.bind_eq_some_iff.mp H
      obtain ⟨t613, A200, H⟩ := H
      replace H : (some t613) = some r := H
      have A20 := Aside0.mk A200;clear A200
      obtain rfl := Option.some.inj H
      go_wp2_with (first | ((with_reducible refine gate_callee (f := 32) rfl ?_); refine goesL_ (some 50) rfl rfl Try.func32 (by kernel_rfl) rfl #[] rfl (by (try simp only [List.map_toArray, List.map_cons, List.map_nil]); first | done | rfl | (simp only [List.length_drop, List.length_take]; rfl)) ?_; (with_reducible refine (tenorlaw6_awake.calls  t613 _ A20.out).mono ?_); rintro e w21 ⟨rfl, hb⟩; refine ⟨_, rfl, ?_⟩; have n0_ := Aside0.mk (blk_below (g := gb607) (o := .cells #[.int .i64 a0_0, .slice A0_1 l0_1.length c0_1] 24 (0, 0)) (by (with_reducible repeat (first | refine blk_drewN ?_ _ | refine blk_drew ?_ | refine blk_alloc ?_ _)); exact BK607.out) hb); have n1_ := Aside0.mk (below_step (by repeat (first | (with_reducible first | exact HB.out | apply below_alloc | apply pw_below_drewN | apply below_drew1 | refine below_set ?_ GE607.out) | exact HB.out)) hb); clear BK607; clear HB; have BK607 := n0_; have HB := n1_; clear n0_ n1_; (try clear hb); (try clear hb2); (try clear hk); (try clear hi)))
      go_ret
      exact ⟨by first | rfl | (simp [errW_none, errW_some] <;> rfl) | (simp [*, errW_none, errW_some] <;> rfl), by repeat (first | (with_reducible first | exact HB.out | apply below_alloc | apply pw_below_drewN | apply below_drew1 | refine below_set ?_ GE607.out) | exact HB.out)⟩
     ·
      rw [if_neg c19] at H
      have c19b0 : (t611 == 0) = false := beq_eq_false_iff_ne.mpr c19
      have c19b1 : (t611 != 0) = true := bne_iff_ne.mpr c19
      replace H := Option.bind_eq_some_iff.mp H
      obtain ⟨⟨t614, t615⟩, A220, H⟩ := H
      replace H : ((cal_Holiday.f a0_0 l0_1 a1).bind fun bt616 => ((cal_Adjust.f a0_0 l0_1 a1 a2).bind fun bt618 => ((cal_Add.f a0_0 l0_1 a1 a2).bind fun bt620 => ((cal_Count.f a0_0 l0_1 a1 a2).bind fun bt622 => ((cal_Join.f kj10 a0_0 l0_1 0 ([] : List (S63))).bind fun bt624 => ((cal_Join.f kj10 0 ([] : List (S63)) a0_0 l0_1).bind fun bt630 => (if t614 = true then (some false) else (if bt616.1 = true then (some false) else (if bt618.1 = 0 then (if bt620.1 = 0 then (if bt622.1 = 0 then (if t615 = t609 then (if bt616.2 = t609 then (if bt618.2 = t609 then (if bt620.2 = t609 then (if bt622.2 = t609 then (if bt624.2.2 = t609 then (if bt630.2.2 = t609 then ((tenorref6_Same.f kj10 bt624.1 bt624.2.1 0 ([] : List (S63))).bind fun t636 => (if t636 = true then ((tenorref6_Same.f kj10 bt630.1 bt630.2.1 0 ([] : List (S63))).bind fun t637 => (if t637 = true then ((tenorlaw6_awake.f).bind fun t638 => (some t638)) else (some false))) else (some false))) else (some false)) else (some false)) else (some false)) else (some false)) else (some false)) else (some false)) else (some false)) else (some false)) else (some false)) else (some false)))))))))) = some r := H
      have A22 := Aside0.mk A220;clear A220;replace H := Option.bind_eq_some_iff.mp H
      obtain ⟨⟨t616, t617⟩, A230, H⟩ := H
      replace H : ((cal_Adjust.f a0_0 l0_1 a1 a2).bind fun bt618 => ((cal_Add.f a0_0 l0_1 a1 a2).bind fun bt620 => ((cal_Count.f a0_0 l0_1 a1 a2).bind fun bt622 => ((cal_Join.f kj10 a0_0 l0_1 0 ([] : List (S63))).bind fun bt624 => ((cal_Join.f kj10 0 ([] : List (S63)) a0_0 l0_1).bind fun bt630 => (if t614 = true then (some false) else (if t616 = true then (some false) else (if bt618.1 = 0 then (if bt620.1 = 0 then (if bt622.1 = 0 then (if t615 = t609 then (if t617 = t609 then (if bt618.2 = t609 then (if bt620.2 = t609 then (if bt622.2 = t609 then (if bt624.2.2 = t609 then (if bt630.2.2 = t609 then ((tenorref6_Same.f kj10 bt624.1 bt624.2.1 0 ([] : List (S63))).bind fun t636 => (if t636 = true then ((tenorref6_Same.f kj10 bt630.1 bt630.2.1 0 ([] : List (S63))).bind fun t637 => (if t637 = true then ((tenorlaw6_awake.f).bind fun t638 => (some t638)) else (some false))) else (some false))) else (some false)) else (some false)) else (some false)) else (some false)) else (some false)) else (some false)) else (some false)) else (some false)) else (some false)) else (some false))))))))) = some r := H
      have A23 := Aside0.mk A230;clear A230;replace H := Option.bind_eq_some_iff.mp H
      obtain ⟨⟨t618, t619⟩, A240, H⟩ := H
      replace H : ((cal_Add.f a0_0 l0_1 a1 a2).bind fun bt620 => ((cal_Count.f a0_0 l0_1 a1 a2).bind fun bt622 => ((cal_Join.f kj10 a0_0 l0_1 0 ([] : List (S63))).bind fun bt624 => ((cal_Join.f kj10 0 ([] : List (S63)) a0_0 l0_1).bind fun bt630 => (if t614 = true then (some false) else (if t616 = true then (some false) else (if t618 = 0 then (if bt620.1 = 0 then (if bt622.1 = 0 then (if t615 = t609 then (if t617 = t609 then (if t619 = t609 then (if bt620.2 = t609 then (if bt622.2 = t609 then (if bt624.2.2 = t609 then (if bt630.2.2 = t609 then ((tenorref6_Same.f kj10 bt624.1 bt624.2.1 0 ([] : List (S63))).bind fun t636 => (if t636 = true then ((tenorref6_Same.f kj10 bt630.1 bt630.2.1 0 ([] : List (S63))).bind fun t637 => (if t637 = true then ((tenorlaw6_awake.f).bind fun t638 => (some t638)) else (some false))) else (some false))) else (some false)) else (some false)) else (some false)) else (some false)) else (some false)) else (some false)) else (some false)) else (some false)) else (some false)) else (some false)))))))) = some r := H
      have A24 := Aside0.mk A240;clear A240;replace H := Option.bind_eq_some_iff.mp H
      obtain ⟨⟨t620, t621⟩, A250, H⟩ := H
      replace H : ((cal_Count.f a0_0 l0_1 a1 a2).bind fun bt622 => ((cal_Join.f kj10 a0_0 l0_1 0 ([] : List (S63))).bind fun bt624 => ((cal_Join.f kj10 0 ([] : List (S63)) a0_0 l0_1).bind fun bt630 => (if t614 = true then (some false) else (if t616 = true then (some false) else (if t618 = 0 then (if t620 = 0 then (if bt622.1 = 0 then (if t615 = t609 then (if t617 = t609 then (if t619 = t609 then (if t621 = t609 then (if bt622.2 = t609 then (if bt624.2.2 = t609 then (if bt630.2.2 = t609 then ((tenorref6_Same.f kj10 bt624.1 bt624.2.1 0 ([] : List (S63))).bind fun t636 => (if t636 = true then ((tenorref6_Same.f kj10 bt630.1 bt630.2.1 0 ([] : List (S63))).bind fun t637 => (if t637 = true then ((tenorlaw6_awake.f).bind fun t638 => (some t638)) else (some false))) else (some false))) else (some false)) else (some false)) else (some false)) else (some false)) else (some false)) else (some false)) else (some false)) else (some false)) else (some false)) else (some false))))))) = some r := H
      have A25 := Aside0.mk A250;clear A250;replace H := Option.bind_eq_some_iff.mp H
      obtain ⟨⟨t622, t623⟩, A260, H⟩ := H
      replace H : ((cal_Join.f kj10 a0_0 l0_1 0 ([] : List (S63))).bind fun bt624 => ((cal_Join.f kj10 0 ([] : List (S63)) a0_0 l0_1).bind fun bt630 => (if t614 = true then (some false) else (if t616 = true then (some false) else (if t618 = 0 then (if t620 = 0 then (if t622 = 0 then (if t615 = t609 then (if t617 = t609 then (if t619 = t609 then (if t621 = t609 then (if t623 = t609 then (if bt624.2.2 = t609 then (if bt630.2.2 = t609 then ((tenorref6_Same.f kj10 bt624.1 bt624.2.1 0 ([] : List (S63))).bind fun t636 => (if t636 = true then ((tenorref6_Same.f kj10 bt630.1 bt630.2.1 0 ([] : List (S63))).bind fun t637 => (if t637 = true then ((tenorlaw6_awake.f).bind fun t638 => (some t638)) else (some false))) else (some false))) else (some false)) else (some false)) else (some false)) else (some false)) else (some false)) else (some false)) else (some false)) else (some false)) else (some false)) else (some false)))))) = some r := H
      have A26 := Aside0.mk A260;clear A260;replace H := Option.bind_eq_some_iff.mp H
      obtain ⟨⟨t624, t625, t628⟩, A270, H⟩ := H
      replace H : ((cal_Join.f kj10 0 ([] : List (S63)) a0_0 l0_1).bind fun bt630 => (if t614 = true then (some false) else (if t616 = true then (some false) else (if t618 = 0 then (if t620 = 0 then (if t622 = 0 then (if t615 = t609 then (if t617 = t609 then (if t619 = t609 then (if t621 = t609 then (if t623 = t609 then (if t628 = t609 then (if bt630.2.2 = t609 then ((tenorref6_Same.f kj10 t624 t625 0 ([] : List (S63))).bind fun t636 => (if t636 = true then ((tenorref6_Same.f kj10 bt630.1 bt630.2.1 0 ([] : List (S63))).bind fun t637 => (if t637 = true then ((tenorlaw6_awake.f).bind fun t638 => (some t638)) else (some false))) else (some false))) else (some false)) else (some false)) else (some false)) else (some false)) else (some false)) else (some false)) else (some false)) else (some false)) else (some false)) else (some false))))) = some r := H
      have A27 := Aside0.mk A270;clear A270;replace H := Option.bind_eq_some_iff.mp H
      obtain ⟨⟨t630, t631, t634⟩, A280, H⟩ := H
      replace H : (if t614 = true then (some false) else (if t616 = true then (some false) else (if t618 = 0 then (if t620 = 0 then (if t622 = 0 then (if t615 = t609 then (if t617 = t609 then (if t619 = t609 then (if t621 = t609 then (if t623 = t609 then (if t628 = t609 then (if t634 = t609 then ((tenorref6_Same.f kj10 t624 t625 0 ([] : List (S63))).bind fun t636 => (if t636 = true then ((tenorref6_Same.f kj10 t630 t631 0 ([] : List (S63))).bind fun t637 => (if t637 = true then ((tenorlaw6_awake.f).bind fun t638 => (some t638)) else (some false))) else (some false))) else (some false)) else (some false)) else (some false)) else (some false)) else (some false)) else (some false)) else (some false)) else (some false)) else (some false)) else (some false)))) = some r := H
      have A28 := Aside0.mk A280;clear A280
      by_cases c29 : t614 = true
      ·
       subst c29
       have H1 : (some false) = some r := by rw [if_pos rfl] at H; exact H
       clear H;have H := H1;clear H1
       exact absurd (H.trans (congrArg some HT)) (by decide)
      ·
       replace c29 := Bool.eq_false_iff.mpr c29;subst c29
       have H1 : (if t616 = true then (some false) else (if t618 = 0 then (if t620 = 0 then (if t622 = 0 then (if t615 = t609 then (if t617 = t609 then (if t619 = t609 then (if t621 = t609 then (if t623 = t609 then (if t628 = t609 then (if t634 = t609 then ((tenorref6_Same.f kj10 t624 t625 0 ([] : List (S63))).bind fun t636 => (if t636 = true then ((tenorref6_Same.f kj10 t630 t631 0 ([] : List (S63))).bind fun t637 => (if t637 = true then ((tenorlaw6_awake.f).bind fun t638 => (some t638)) else (some false))) else (some false))) else (some false)) else (some false)) else (some false)) else (some false)) else (some false)) else (some false)) else (some false)) else (some false)) else (some false)) else (some false))) = some r := by rw [if_neg (show ¬ (false = true) by decide)] at H; exact H
       clear H;have H := H1;clear H1
       by_cases c53 : t616 = true
       ·
        subst c53
        have H1 : (some false) = some r := by rw [if_pos rfl] at H; exact H
        clear H;have H := H1;clear H1
        exact absurd (H.trans (congrArg some HT)) (by decide)
       ·
        replace c53 := Bool.eq_false_iff.mpr c53;subst c53
        have H1 : (if t618 = 0 then (if t620 = 0 then (if t622 = 0 then (if t615 = t609 then (if t617 = t609 then (if t619 = t609 then (if t621 = t609 then (if t623 = t609 then (if t628 = t609 then (if t634 = t609 then ((tenorref6_Same.f kj10 t624 t625 0 ([] : List (S63))).bind fun t636 => (if t636 = true then ((tenorref6_Same.f kj10 t630 t631 0 ([] : List (S63))).bind fun t637 => (if t637 = true then ((tenorlaw6_awake.f).bind fun t638 => (some t638)) else (some false))) else (some false))) else (some false)) else (some false)) else (some false)) else (some false)) else (some false)) else (some false)) else (some false)) else (some false)) else (some false)) else (some false)) = some r := by rw [if_neg (show ¬ (false = true) by decide)] at H; exact H
        clear H;have H := H1;clear H1
        by_cases c77 : t618 = 0
        ·
         rw [if_pos c77] at H
         have c77b0 : (t618 == 0) = true := beq_iff_eq.mpr c77
         have c77b1 : (t618 != 0) = false := bne_eq_false_iff_eq.mpr c77
         clear c77
         by_cases c78 : t620 = 0
         ·
          rw [if_pos c78] at H
          have c78b0 : (t620 == 0) = true := beq_iff_eq.mpr c78
          have c78b1 : (t620 != 0) = false := bne_eq_false_iff_eq.mpr c78
          clear c78
          by_cases c79 : t622 = 0
          ·
           rw [if_pos c79] at H
           have c79b0 : (t622 == 0) = true := beq_iff_eq.mpr c79
           have c79b1 : (t622 != 0) = false := bne_eq_false_iff_eq.mpr c79
           clear c79
           by_cases c80 : t615 = t609
           ·
            rw [if_pos c80] at H
            have c80b0 : (t615 == t609) = true := beq_iff_eq.mpr c80
            have c80b1 : (t615 != t609) = false := bne_eq_false_iff_eq.mpr c80
            clear c80
            by_cases c81 : t617 = t609
            ·
             rw [if_pos c81] at H
             have c81b0 : (t617 == t609) = true := beq_iff_eq.mpr c81
             have c81b1 : (t617 != t609) = false := bne_eq_false_iff_eq.mpr c81
             clear c81
             by_cases c82 : t619 = t609
             ·
              rw [if_pos c82] at H
              have c82b0 : (t619 == t609) = true := beq_iff_eq.mpr c82
              have c82b1 : (t619 != t609) = false := bne_eq_false_iff_eq.mpr c82
              clear c82
              by_cases c83 : t621 = t609
              ·
               rw [if_pos c83] at H
               have c83b0 : (t621 == t609) = true := beq_iff_eq.mpr c83
               have c83b1 : (t621 != t609) = false := bne_eq_false_iff_eq.mpr c83
               clear c83
               by_cases c84 : t623 = t609
               ·
                rw [if_pos c84] at H
                have c84b0 : (t623 == t609) = true := beq_iff_eq.mpr c84
                have c84b1 : (t623 != t609) = false := bne_eq_false_iff_eq.mpr c84
                clear c84
                by_cases c85 : t628 = t609
                ·
                 rw [if_pos c85] at H
                 have c85b0 : (t628 == t609) = true := beq_iff_eq.mpr c85
                 have c85b1 : (t628 != t609) = false := bne_eq_false_iff_eq.mpr c85
                 clear c85
                 by_cases c86 : t634 = t609
                 ·
                  rw [if_pos c86] at H
                  have c86b0 : (t634 == t609) = true := beq_iff_eq.mpr c86
                  have c86b1 : (t634 != t609) = false := bne_eq_false_iff_eq.mpr c86
                  clear c86;replace H := Option.bind_eq_some_iff.mp H
                  obtain ⟨t636, A870, H⟩ := H
                  replace H : (if t636 = true then ((tenorref6_Same.f kj10 t630 t631 0 ([] : List (S63))).bind fun t637 => (if t637 = true then ((tenorlaw6_awake.f).bind fun t638 => (some t638)) else (some false))) else (some false)) = some r := H
                  have A87 := Aside0.mk A870;clear A870
                  by_cases c88 : t636 = true
                  ·
                   subst c88
                   have H1 : ((tenorref6_Same.f kj10 t630 t631 0 ([] : List (S63))).bind fun t637 => (if t637 = true then ((tenorlaw6_awake.f).bind fun t638 => (some t638)) else (some false))) = some r := by rw [if_pos rfl] at H; exact H
                   clear H;have H := H1;clear H1;replace H := Option.bind_eq_some_iff.mp H
                   obtain ⟨t637, A890, H⟩ := H
                   replace H : (if t637 = true then ((tenorlaw6_awake.f).bind fun t638 => (some t638)) else (some false)) = some r := H
                   have A89 := Aside0.mk A890;clear A890
                   by_cases c90 : t637 = true
                   ·
                    subst c90
                    have H1 : ((tenorlaw6_awake.f).bind fun t638 => (some t638)) = some r := by rw [if_pos rfl] at H; exact H
                    clear H;have H := H1;clear H1;replace H := Option.bind_eq_some_iff.mp H
                    obtain ⟨t638, A910, H⟩ := H
                    replace H : (some t638) = some r := H
                    have A91 := Aside0.mk A910;clear A910
                    obtain rfl := Option.some.inj H
                    have hcz92_0 : wc.cell? ⟨gb607, 0, none⟩ = some (.int .i64 a0_0) := (blk_cell BK607.out 0).trans rfl
                    have hcz92_1 : wc.cell? ⟨gb607, 1, none⟩ = some (.slice A0_1 l0_1.length c0_1) := (blk_cell BK607.out 1).trans rfl
                    have hfz92_0 := blk_frozen BK607.out 0;have hfz92_1 := blk_frozen BK607.out 1
                    go_upto_region 16 with (first | ((with_reducible refine gate_callee (f := 33) rfl ?_); refine goesL_ (some 54) rfl rfl Try.func33 (by kernel_rfl) rfl #[.agg #[.int .i64 a0_0, .slice A0_1 l0_1.length c0_1], .int .i64 a1] rfl (by (try simp only [List.map_toArray, List.map_cons, List.map_nil]); first | done | rfl | (simp only [List.length_drop, List.length_take]; rfl)) ?_; (with_reducible refine (cal_Open.calls a0_0 _ _ l0_1 a1 false t615 _ ?side1 ?side2 A22.out).mono ?_); (case side1 => repeat (first | exact (Kd.C_below HR0_1.out HB.out) | (with_reducible refine Kd.C_alloc ?_ _) | (with_reducible refine Kd.C_drewN ?_ _) | (with_reducible refine Kd.C_drew ?_))); (case side2 => exact HC0_1.out); rintro e w93 ⟨rfl, hb⟩; refine ⟨_, rfl, ?_⟩; have n0_ := Aside0.mk (blk_below (g := gb607) (o := .cells #[.int .i64 a0_0, .slice A0_1 l0_1.length c0_1] 24 (0, 0)) (by (with_reducible repeat (first | refine blk_drewN ?_ _ | refine blk_drew ?_ | refine blk_alloc ?_ _)); exact BK607.out) hb); have n1_ := Aside0.mk (below_step (by repeat (first | (with_reducible first | exact HB.out | apply below_alloc | apply pw_below_drewN | apply below_drew1 | refine below_set ?_ GE607.out) | exact HB.out)) hb); clear BK607; clear HB; have BK607 := n0_; have HB := n1_; clear n0_ n1_; (try clear hb); (try clear hb2); (try clear hk); (try clear hi); have hcz94_0 : w93.cell? ⟨gb607, 0, none⟩ = some (.int .i64 a0_0) := (blk_cell BK607.out 0).trans rfl; have hcz94_1 : w93.cell? ⟨gb607, 1, none⟩ = some (.slice A0_1 l0_1.length c0_1) := (blk_cell BK607.out 1).trans rfl; have hfz94_0 := blk_frozen BK607.out 0; have hfz94_1 := blk_frozen BK607.out 1) | ((with_reducible refine gate_callee (f := 35) rfl ?_); refine goesL_ (some 60) rfl rfl Try.func35 (by kernel_rfl) rfl #[.agg #[.int .i64 a0_0, .slice A0_1 l0_1.length c0_1], .int .i64 a1] rfl (by (try simp only [List.map_toArray, List.map_cons, List.map_nil]); first | done | rfl | (simp only [List.length_drop, List.length_take]; rfl)) ?_; (with_reducible refine (cal_Holiday.calls a0_0 _ _ l0_1 a1 false t617 _ ?side1 ?side2 A23.out).mono ?_); (case side1 => repeat (first | exact (Kd.C_below HR0_1.out HB.out) | (with_reducible refine Kd.C_alloc ?_ _) | (with_reducible refine Kd.C_drewN ?_ _) | (with_reducible refine Kd.C_drew ?_))); (case side2 => exact HC0_1.out); rintro e w95 ⟨rfl, hb⟩; refine ⟨_, rfl, ?_⟩; have n0_ := Aside0.mk (blk_below (g := gb607) (o := .cells #[.int .i64 a0_0, .slice A0_1 l0_1.length c0_1] 24 (0, 0)) (by (with_reducible repeat (first | refine blk_drewN ?_ _ | refine blk_drew ?_ | refine blk_alloc ?_ _)); exact BK607.out) hb); have n1_ := Aside0.mk (below_step (by repeat (first | (with_reducible first | exact HB.out | apply below_alloc | apply pw_below_drewN | apply below_drew1 | refine below_set ?_ GE607.out) | exact HB.out)) hb); clear BK607; clear HB; have BK607 := n0_; have HB := n1_; clear n0_ n1_; (try clear hb); (try clear hb2); (try clear hk); (try clear hi); have hcz96_0 : w95.cell? ⟨gb607, 0, none⟩ = some (.int .i64 a0_0) := (blk_cell BK607.out 0).trans rfl; have hcz96_1 : w95.cell? ⟨gb607, 1, none⟩ = some (.slice A0_1 l0_1.length c0_1) := (blk_cell BK607.out 1).trans rfl; have hfz96_0 := blk_frozen BK607.out 0; have hfz96_1 := blk_frozen BK607.out 1) | ((with_reducible refine gate_callee (f := 38) rfl ?_); refine goesL_ (some 67) rfl rfl Try.func38 (by kernel_rfl) rfl #[.agg #[.int .i64 a0_0, .slice A0_1 l0_1.length c0_1], .int .i64 a1, .int .i64 a2] rfl (by (try simp only [List.map_toArray, List.map_cons, List.map_nil]); first | done | rfl | (simp only [List.length_drop, List.length_take]; rfl)) ?_; (with_reducible refine (cal_Adjust.calls a0_0 _ _ l0_1 a1 a2 t618 t619 _ ?side1 ?side2 A24.out).mono ?_); (case side1 => repeat (first | exact (Kd.C_below HR0_1.out HB.out) | (with_reducible refine Kd.C_alloc ?_ _) | (with_reducible refine Kd.C_drewN ?_ _) | (with_reducible refine Kd.C_drew ?_))); (case side2 => exact HC0_1.out); rintro e w97 ⟨rfl, hb⟩; refine ⟨_, rfl, ?_⟩; have n0_ := Aside0.mk (blk_below (g := gb607) (o := .cells #[.int .i64 a0_0, .slice A0_1 l0_1.length c0_1] 24 (0, 0)) (by (with_reducible repeat (first | refine blk_drewN ?_ _ | refine blk_drew ?_ | refine blk_alloc ?_ _)); exact BK607.out) hb); have n1_ := Aside0.mk (below_step (by repeat (first | (with_reducible first | exact HB.out | apply below_alloc | apply pw_below_drewN | apply below_drew1 | refine below_set ?_ GE607.out) | exact HB.out)) hb); clear BK607; clear HB; have BK607 := n0_; have HB := n1_; clear n0_ n1_; (try clear hb); (try clear hb2); (try clear hk); (try clear hi); have hcz98_0 : w97.cell? ⟨gb607, 0, none⟩ = some (.int .i64 a0_0) := (blk_cell BK607.out 0).trans rfl; have hcz98_1 : w97.cell? ⟨gb607, 1, none⟩ = some (.slice A0_1 l0_1.length c0_1) := (blk_cell BK607.out 1).trans rfl; have hfz98_0 := blk_frozen BK607.out 0; have hfz98_1 := blk_frozen BK607.out 1) | ((with_reducible refine gate_callee (f := 40) rfl ?_); refine goesL_ (some 74) rfl rfl Try.func40 (by kernel_rfl) rfl #[.agg #[.int .i64 a0_0, .slice A0_1 l0_1.length c0_1], .int .i64 a1, .int .i64 a2] rfl (by (try simp only [List.map_toArray, List.map_cons, List.map_nil]); first | done | rfl | (simp only [List.length_drop, List.length_take]; rfl)) ?_; (with_reducible refine (cal_Add.calls a0_0 _ _ l0_1 a1 a2 t620 t621 _ ?side1 ?side2 A25.out).mono ?_); (case side1 => repeat (first | exact (Kd.C_below HR0_1.out HB.out) | (with_reducible refine Kd.C_alloc ?_ _) | (with_reducible refine Kd.C_drewN ?_ _) | (with_reducible refine Kd.C_drew ?_))); (case side2 => exact HC0_1.out); rintro e w99 ⟨rfl, hb⟩; refine ⟨_, rfl, ?_⟩; have n0_ := Aside0.mk (blk_below (g := gb607) (o := .cells #[.int .i64 a0_0, .slice A0_1 l0_1.length c0_1] 24 (0, 0)) (by (with_reducible repeat (first | refine blk_drewN ?_ _ | refine blk_drew ?_ | refine blk_alloc ?_ _)); exact BK607.out) hb); have n1_ := Aside0.mk (below_step (by repeat (first | (with_reducible first | exact HB.out | apply below_alloc | apply pw_below_drewN | apply below_drew1 | refine below_set ?_ GE607.out) | exact HB.out)) hb); clear BK607; clear HB; have BK607 := n0_; have HB := n1_; clear n0_ n1_; (try clear hb); (try clear hb2); (try clear hk); (try clear hi); have hcz100_0 : w99.cell? ⟨gb607, 0, none⟩ = some (.int .i64 a0_0) := (blk_cell BK607.out 0).trans rfl; have hcz100_1 : w99.cell? ⟨gb607, 1, none⟩ = some (.slice A0_1 l0_1.length c0_1) := (blk_cell BK607.out 1).trans rfl; have hfz100_0 := blk_frozen BK607.out 0; have hfz100_1 := blk_frozen BK607.out 1) | ((with_reducible refine gate_callee (f := 42) rfl ?_); refine goesL_ (some 81) rfl rfl Try.func42 (by kernel_rfl) rfl #[.agg #[.int .i64 a0_0, .slice A0_1 l0_1.length c0_1], .int .i64 a1, .int .i64 a2] rfl (by (try simp only [List.map_toArray, List.map_cons, List.map_nil]); first | done | rfl | (simp only [List.length_drop, List.length_take]; rfl)) ?_; (with_reducible refine (cal_Count.calls a0_0 _ _ l0_1 a1 a2 t622 t623 _ ?side1 ?side2 A26.out).mono ?_); (case side1 => repeat (first | exact (Kd.C_below HR0_1.out HB.out) | (with_reducible refine Kd.C_alloc ?_ _) | (with_reducible refine Kd.C_drewN ?_ _) | (with_reducible refine Kd.C_drew ?_))); (case side2 => exact HC0_1.out); rintro e w101 ⟨rfl, hb⟩; refine ⟨_, rfl, ?_⟩; have n0_ := Aside0.mk (blk_below (g := gb607) (o := .cells #[.int .i64 a0_0, .slice A0_1 l0_1.length c0_1] 24 (0, 0)) (by (with_reducible repeat (first | refine blk_drewN ?_ _ | refine blk_drew ?_ | refine blk_alloc ?_ _)); exact BK607.out) hb); have n1_ := Aside0.mk (below_step (by repeat (first | (with_reducible first | exact HB.out | apply below_alloc | apply pw_below_drewN | apply below_drew1 | refine below_set ?_ GE607.out) | exact HB.out)) hb); clear BK607; clear HB; have BK607 := n0_; have HB := n1_; clear n0_ n1_; (try clear hb); (try clear hb2); (try clear hk); (try clear hi); have hcz102_0 : w101.cell? ⟨gb607, 0, none⟩ = some (.int .i64 a0_0) := (blk_cell BK607.out 0).trans rfl; have hcz102_1 : w101.cell? ⟨gb607, 1, none⟩ = some (.slice A0_1 l0_1.length c0_1) := (blk_cell BK607.out 1).trans rfl; have hfz102_0 := blk_frozen BK607.out 0; have hfz102_1 := blk_frozen BK607.out 1) | ((with_reducible refine gate_callee (f := 46) rfl ?_); refine goesL_ (some 87) rfl rfl Try.func46 (by kernel_rfl) rfl #[.agg #[.int .i64 a0_0, .slice A0_1 l0_1.length c0_1], .agg #[.int .i64 0, .slice none 0 0]] rfl (by (try simp only [List.map_toArray, List.map_cons, List.map_nil]); first | done | rfl | (simp only [List.length_drop, List.length_take]; rfl)) ?_; (refine (cal_Join.calls kj10 a0_0 _ _ l0_1 0 _ _ ([] : List (S63)) t624 t625 t628 _ ?side1 ?side2 ?side3 ?side4 A27.out).mono ?_); (case side1 => repeat (first | exact (Kd.C_below HR0_1.out HB.out) | (with_reducible refine Kd.C_alloc ?_ _) | (with_reducible refine Kd.C_drewN ?_ _) | (with_reducible refine Kd.C_drew ?_))); (case side2 => exact HC0_1.out); (case side3 => exact Kd.C_nil _ _); (case side4 => exact Nat.le_refl _); rintro e w103 ⟨v626, rfl, ho0, hb⟩; refine ⟨_, rfl, ?_⟩; have n0_ := Aside0.mk (Kd.R_lower ho0 (below_size (by repeat (first | (with_reducible first | exact HB.out | apply below_alloc | apply pw_below_drewN | apply below_drew1 | refine below_set ?_ GE607.out) | exact HB.out)))); have n1_ := Aside0.mk (blk_below (g := gb607) (o := .cells #[.int .i64 a0_0, .slice A0_1 l0_1.length c0_1] 24 (0, 0)) (by (with_reducible repeat (first | refine blk_drewN ?_ _ | refine blk_drew ?_ | refine blk_alloc ?_ _)); exact BK607.out) hb); have n2_ := Aside0.mk (below_step (by repeat (first | (with_reducible first | exact HB.out | apply below_alloc | apply pw_below_drewN | apply below_drew1 | refine below_set ?_ GE607.out) | exact HB.out)) hb); clear BK607; clear HB; have HO627 := n0_; have BK607 := n1_; have HB := n2_; clear n0_ n1_ n2_; (try clear hb); (try clear hb2); (try clear hk); (try clear hi); (try clear ho0)) | ((with_reducible refine gate_dst (N := 21) rfl ?_); refine box_event ?hg (N := 21) ?hd (cs := #[.int .i64 0, .slice none 0 0]) (t := 24) ?hr ?_; (case hd => rfl); (case hg => rfl); (case hr => first | (go_simp; done) | (go_simp; rfl)); intro gb629 hg w104 hbox hb; have n0_ := Aside0.mk (Kd.R_below (by (with_reducible repeat (first | apply Kd.R_alloc | apply Kd.R_drewN | apply Kd.R_drew)); exact HO627.out) hb); have n1_ := Aside0.mk (blk_below (g := gb607) (o := .cells #[.int .i64 a0_0, .slice A0_1 l0_1.length c0_1] 24 (0, 0)) (by (with_reducible repeat (first | refine blk_drewN ?_ _ | refine blk_drew ?_ | refine blk_alloc ?_ _)); exact BK607.out) hb); have n2_ := Aside0.mk (below_step (by repeat (first | (with_reducible first | exact HB.out | apply below_alloc | apply pw_below_drewN | apply below_drew1 | refine below_set ?_ GE607.out) | exact HB.out)) hb); have n3_ := Aside0.mk (hbox); have n4_ := Aside0.mk ((by rw [hg]; exact (below_size (by repeat (first | (with_reducible first | exact HB.out | apply below_alloc | apply pw_below_drewN | apply below_drew1 | refine below_set ?_ GE607.out) | exact HB.out))) : w.heap.size ≤ gb629)); have n5_ := Aside0.mk ((by rw [hg]; exact (below_size (by repeat (first | (with_reducible first | exact HB.out | apply below_alloc | apply pw_below_drewN | apply below_drew1 | refine below_set ?_ GE607.out) | exact HB.out))) : w.heap.size ≤ gb629)); have n6_ := Aside0.mk ((by rw [hg]; exact Nat.ne_of_lt (blk_lt (g := gb607) (o := .cells #[.int .i64 a0_0, .slice A0_1 l0_1.length c0_1] 24 (0, 0)) (by (with_reducible repeat (first | refine blk_drewN ?_ _ | refine blk_drew ?_ | refine blk_alloc ?_ _)); exact BK607.out)) : gb607 ≠ gb629)); have n7_ := Aside0.mk ((by rw [hg]; exact Nat.ne_of_gt (blk_lt (g := gb607) (o := .cells #[.int .i64 a0_0, .slice A0_1 l0_1.length c0_1] 24 (0, 0)) (by (with_reducible repeat (first | refine blk_drewN ?_ _ | refine blk_drew ?_ | refine blk_alloc ?_ _)); exact BK607.out)) : gb629 ≠ gb607)); clear HO627; clear BK607; clear HB; have HO627 := n0_; have BK607 := n1_; have HB := n2_; have BK629 := n3_; have GW629 := n4_; have GE629 := n5_; have NB607_629 := n6_; have NB629_607 := n7_; clear n0_ n1_ n2_ n3_ n4_ n5_ n6_ n7_; clear hb hbox hg; have hnb105 := NB629_607.out; have hnc105 := NB607_629.out; have hcz106_0 : w104.cell? ⟨gb629, 0, none⟩ = some (.int .i64 0) := (blk_cell BK629.out 0).trans rfl; have hcz106_1 : w104.cell? ⟨gb629, 1, none⟩ = some (.slice none 0 0) := (blk_cell BK629.out 1).trans rfl; have hfz106_0 := blk_frozen BK629.out 0; have hfz106_1 := blk_frozen BK629.out 1; obtain ⟨Ao107, co107, eo107⟩ := Kd.R_slice HO627.out; subst eo107; have hcz108_0 : w104.cell? ⟨gb607, 0, none⟩ = some (.int .i64 a0_0) := (blk_cell BK607.out 0).trans rfl; have hcz108_1 : w104.cell? ⟨gb607, 1, none⟩ = some (.slice A0_1 l0_1.length c0_1) := (blk_cell BK607.out 1).trans rfl; have hfz108_0 := blk_frozen BK607.out 0; have hfz108_1 := blk_frozen BK607.out 1) | ((with_reducible refine gate_callee (f := 46) rfl ?_); refine goesL_ (some 93) rfl rfl Try.func46 (by kernel_rfl) rfl #[.agg #[.int .i64 0, .slice none 0 0], .agg #[.int .i64 a0_0, .slice A0_1 l0_1.length c0_1]] rfl (by (try simp only [List.map_toArray, List.map_cons, List.map_nil]); first | done | rfl | (simp only [List.length_drop, List.length_take]; rfl)) ?_; (refine (cal_Join.calls kj10 0 _ _ ([] : List (S63)) a0_0 _ _ l0_1 t630 t631 t634 _ ?side1 ?side2 ?side3 ?side4 A28.out).mono ?_); (case side1 => exact Kd.C_nil _ _); (case side2 => exact Nat.le_refl _); (case side3 => exact Kd.C_below HR0_1.out (by repeat (first | (with_reducible first | exact HB.out | apply below_alloc | apply pw_below_drewN | apply below_drew1 | refine below_set ?_ GE607.out | refine below_set ?_ GE629.out) | exact HB.out))); (case side4 => exact HC0_1.out); rintro e w109 ⟨v632, rfl, ho0, hb⟩; refine ⟨_, rfl, ?_⟩; have n0_ := Aside0.mk (Kd.R_elder' (by (with_reducible repeat (first | apply Kd.R_alloc | apply Kd.R_drewN | apply Kd.R_drew)); exact (Kd.R_mono (Kd.R_far (p := ⟨gb629, 1, none⟩) (Kd.R_far (p := ⟨gb629, 0, none⟩) (Kd.R_types HO627.out BK629.out (by decide)) (fun _ hk => hk.2) (.int .i64 t624)) (fun _ hk => hk.2) (.slice Ao107 t625.length co107)) (fun _ h_ => h_.1))) (Kd.R_base ho0) hb); have n1_ := Aside0.mk (Kd.R_lower (Kd.R_new' ho0 (Kd.R_lt (by (with_reducible repeat (first | apply Kd.R_alloc | apply Kd.R_drewN | apply Kd.R_drew)); exact (Kd.R_mono (Kd.R_far (p := ⟨gb629, 1, none⟩) (Kd.R_far (p := ⟨gb629, 0, none⟩) (Kd.R_types HO627.out BK629.out (by decide)) (fun _ hk => hk.2) (.int .i64 t624)) (fun _ hk => hk.2) (.slice Ao107 t625.length co107)) (fun _ h_ => h_.1))))) (below_size (by repeat (first | (with_reducible first | exact HB.out | apply below_alloc | apply pw_below_drewN | apply below_drew1 | refine below_set ?_ GE607.out | refine below_set ?_ GE629.out) | exact HB.out)))); have n2_ := Aside0.mk (blk_below (g := gb607) (o := .cells #[.int .i64 a0_0, .slice A0_1 l0_1.length c0_1] 24 (0, 0)) (by (with_reducible repeat (first | refine blk_drewN ?_ _ | refine blk_drew ?_ | refine blk_alloc ?_ _)); refine blk_far ?_ NB607_629.out _; (with_reducible repeat (first | refine blk_drewN ?_ _ | refine blk_drew ?_ | refine blk_alloc ?_ _)); refine blk_far ?_ NB607_629.out _; (with_reducible repeat (first | refine blk_drewN ?_ _ | refine blk_drew ?_ | refine blk_alloc ?_ _)); exact BK607.out) hb); have n3_ := Aside0.mk (blk_below (g := gb629) (o := .cells #[.int .i64 t624, .slice Ao107 t625.length co107] 24 (0, 0)) (by (with_reducible repeat (first | refine blk_drewN ?_ _ | refine blk_drew ?_ | refine blk_alloc ?_ _)); refine blk_put (cs := #[.int .i64 t624, .slice none 0 0]) ?_ 1 _ rfl; (with_reducible repeat (first | refine blk_drewN ?_ _ | refine blk_drew ?_ | refine blk_alloc ?_ _)); refine blk_put (cs := #[.int .i64 0, .slice none 0 0]) ?_ 0 _ rfl; (with_reducible repeat (first | refine blk_drewN ?_ _ | refine blk_drew ?_ | refine blk_alloc ?_ _)); exact BK629.out) hb); have n4_ := Aside0.mk (below_step (by repeat (first | (with_reducible first | exact HB.out | apply below_alloc | apply pw_below_drewN | apply below_drew1 | refine below_set ?_ GE607.out | refine below_set ?_ GE629.out) | exact HB.out)) hb); clear HO627; clear BK607; clear BK629; clear HB; have HO627 := n0_; have HO633 := n1_; have BK607 := n2_; have BK629 := n3_; have HB := n4_; clear n0_ n1_ n2_ n3_ n4_; (try clear hb); (try clear hb2); (try clear hk); (try clear hi); (try clear ho0)) | ((with_reducible refine gate_dst (N := 23) rfl ?_); refine box_event ?hg (N := 23) ?hd (cs := #[.int .i64 0, .slice none 0 0]) (t := 24) ?hr ?_; (case hd => rfl); (case hg => rfl); (case hr => first | (go_simp; done) | (go_simp; rfl)); intro gb635 hg w110 hbox hb; have n0_ := Aside0.mk (Kd.R_below (by (with_reducible repeat (first | apply Kd.R_alloc | apply Kd.R_drewN | apply Kd.R_drew)); exact HO627.out) hb); have n1_ := Aside0.mk (Kd.R_below (by (with_reducible repeat (first | apply Kd.R_alloc | apply Kd.R_drewN | apply Kd.R_drew)); exact HO633.out) hb); have n2_ := Aside0.mk (blk_below (g := gb607) (o := .cells #[.int .i64 a0_0, .slice A0_1 l0_1.length c0_1] 24 (0, 0)) (by (with_reducible repeat (first | refine blk_drewN ?_ _ | refine blk_drew ?_ | refine blk_alloc ?_ _)); exact BK607.out) hb); have n3_ := Aside0.mk (blk_below (g := gb629) (o := .cells #[.int .i64 t624, .slice Ao107 t625.length co107] 24 (0, 0)) (by (with_reducible repeat (first | refine blk_drewN ?_ _ | refine blk_drew ?_ | refine blk_alloc ?_ _)); exact BK629.out) hb); have n4_ := Aside0.mk (below_step (by repeat (first | (with_reducible first | exact HB.out | apply below_alloc | apply pw_below_drewN | apply below_drew1 | refine below_set ?_ GE607.out | refine below_set ?_ GE629.out) | exact HB.out)) hb); have n5_ := Aside0.mk (hbox); have n6_ := Aside0.mk ((by rw [hg]; exact (below_size (by repeat (first | (with_reducible first | exact HB.out | apply below_alloc | apply pw_below_drewN | apply below_drew1 | refine below_set ?_ GE607.out | refine below_set ?_ GE629.out) | exact HB.out))) : w.heap.size ≤ gb635)); have n7_ := Aside0.mk ((by rw [hg]; exact (below_size (by repeat (first | (with_reducible first | exact HB.out | apply below_alloc | apply pw_below_drewN | apply below_drew1 | refine below_set ?_ GE607.out | refine below_set ?_ GE629.out) | exact HB.out))) : w.heap.size ≤ gb635)); have n8_ := Aside0.mk ((by rw [hg]; exact Nat.ne_of_lt (blk_lt (g := gb607) (o := .cells #[.int .i64 a0_0, .slice A0_1 l0_1.length c0_1] 24 (0, 0)) (by (with_reducible repeat (first | refine blk_drewN ?_ _ | refine blk_drew ?_ | refine blk_alloc ?_ _)); exact BK607.out)) : gb607 ≠ gb635)); have n9_ := Aside0.mk ((by rw [hg]; exact Nat.ne_of_gt (blk_lt (g := gb607) (o := .cells #[.int .i64 a0_0, .slice A0_1 l0_1.length c0_1] 24 (0, 0)) (by (with_reducible repeat (first | refine blk_drewN ?_ _ | refine blk_drew ?_ | refine blk_alloc ?_ _)); exact BK607.out)) : gb635 ≠ gb607)); have n10_ := Aside0.mk ((by rw [hg]; exact Nat.ne_of_lt (blk_lt (g := gb629) (o := .cells #[.int .i64 t624, .slice Ao107 t625.length co107] 24 (0, 0)) (by (with_reducible repeat (first | refine blk_drewN ?_ _ | refine blk_drew ?_ | refine blk_alloc ?_ _)); exact BK629.out)) : gb629 ≠ gb635)); have n11_ := Aside0.mk ((by rw [hg]; exact Nat.ne_of_gt (blk_lt (g := gb629) (o := .cells #[.int .i64 t624, .slice Ao107 t625.length co107] 24 (0, 0)) (by (with_reducible repeat (first | refine blk_drewN ?_ _ | refine blk_drew ?_ | refine blk_alloc ?_ _)); exact BK629.out)) : gb635 ≠ gb629)); clear HO627; clear HO633; clear BK607; clear BK629; clear HB; have HO627 := n0_; have HO633 := n1_; have BK607 := n2_; have BK629 := n3_; have HB := n4_; have BK635 := n5_; have GW635 := n6_; have GE635 := n7_; have NB607_635 := n8_; have NB635_607 := n9_; have NB629_635 := n10_; have NB635_629 := n11_; clear n0_ n1_ n2_ n3_ n4_ n5_ n6_ n7_ n8_ n9_ n10_ n11_; clear hb hbox hg; have hnb111 := NB635_607.out; have hnc111 := NB607_635.out; have hnb112 := NB635_629.out; have hnc112 := NB629_635.out; have hcz113_0 : w110.cell? ⟨gb635, 0, none⟩ = some (.int .i64 0) := (blk_cell BK635.out 0).trans rfl; have hcz113_1 : w110.cell? ⟨gb635, 1, none⟩ = some (.slice none 0 0) := (blk_cell BK635.out 1).trans rfl; have hfz113_0 := blk_frozen BK635.out 0; have hfz113_1 := blk_frozen BK635.out 1; obtain ⟨Ao114, co114, eo114⟩ := Kd.R_slice HO633.out; subst eo114; have hcz115_0 : w110.cell? ⟨gb629, 0, none⟩ = some (.int .i64 t624) := (blk_cell BK629.out 0).trans rfl; have hcz115_1 : w110.cell? ⟨gb629, 1, none⟩ = some (.slice Ao107 t625.length co107) := (blk_cell BK629.out 1).trans rfl; have hfz115_0 := blk_frozen BK629.out 0; have hfz115_1 := blk_frozen BK629.out 1))
                    have S1 : Aside0 (∀ (A : Option Addr) (c : Nat) (w' : World) (_ : Kd.C k63 w' A t625.length t625) (_ : t625.length ≤ c), Calls Try.prog 47 #[.agg #[.int .i64 t624, .slice A t625.length c], .agg #[.int .i64 0, .slice none 0 0]] w' fun e w'' => e = .returned (.bool true) ∧ Below w'.heap.size w' w'') := Aside0.mk (fun A c w' h1 h2 => tenorref6_Same.calls kj10 t624 A c t625 0 none 0 ([] : List S63) true w' h1 h2 (Kd.C_nil _ _) (Nat.le_refl _) A87.out)
                    have S2 : Aside0 (∀ (A : Option Addr) (c : Nat) (w' : World) (_ : Kd.C k63 w' A t631.length t631) (_ : t631.length ≤ c), Calls Try.prog 47 #[.agg #[.int .i64 t630, .slice A t631.length c], .agg #[.int .i64 0, .slice none 0 0]] w' fun e w'' => e = .returned (.bool true) ∧ Below w'.heap.size w' w'') := Aside0.mk (fun A c w' h1 h2 => tenorref6_Same.calls kj10 t630 A c t631 0 none 0 ([] : List S63) true w' h1 h2 (Kd.C_nil _ _) (Nat.le_refl _) A89.out)
                    go_wp2_with (first | (go_at_call 47; (with_reducible refine (S1.out _ _ _ ?side1 ?side2).mono ?_); (case side1 => refine (Kd.R_reads' (e := 63) (base := w.heap.size) (ok := fun k_ => (True ∧ some k_ ≠ (.slice Ao114 t631.length co114 : Value).ownBlock)) (n := t625.length) (c := co107) ?_).2.2; exact (by (with_reducible repeat (first | apply Kd.R_alloc | apply Kd.R_drewN | apply Kd.R_drew)); exact (Kd.R_mono (Kd.R_far (p := ⟨gb635, 1, none⟩) (Kd.R_far (p := ⟨gb635, 0, none⟩) (Kd.R_types HO627.out BK635.out (by decide)) (fun _ hk => hk.2) (.int .i64 t630)) (fun _ hk => hk.2) (.slice Ao114 t631.length co114)) (fun _ h_ => h_.1)))); (case side2 => exact (Kd.R_reads' HO627.out).2.1); rintro e w116 ⟨rfl, hb⟩; have n0_ := Aside0.mk (Kd.R_below (by (with_reducible repeat (first | apply Kd.R_alloc | apply Kd.R_drewN | apply Kd.R_drew)); exact (Kd.R_mono (Kd.R_far (p := ⟨gb635, 1, none⟩) (Kd.R_far (p := ⟨gb635, 0, none⟩) (Kd.R_types HO627.out BK635.out (by decide)) (fun _ hk => hk.2) (.int .i64 t630)) (fun _ hk => hk.2) (.slice Ao114 t631.length co114)) (fun _ h_ => h_.1))) hb); have n1_ := Aside0.mk (Kd.R_below (by (with_reducible repeat (first | apply Kd.R_alloc | apply Kd.R_drewN | apply Kd.R_drew)); exact (Kd.R_mono (Kd.R_far (p := ⟨gb635, 1, none⟩) (Kd.R_far (p := ⟨gb635, 0, none⟩) (Kd.R_types HO633.out BK635.out (by decide)) (fun _ hk => hk.2) (.int .i64 t630)) (fun _ hk => hk.2) (.slice Ao114 t631.length co114)) (fun _ h_ => h_.1))) hb); have n2_ := Aside0.mk (blk_below (g := gb607) (o := .cells #[.int .i64 a0_0, .slice A0_1 l0_1.length c0_1] 24 (0, 0)) (by (with_reducible repeat (first | refine blk_drewN ?_ _ | refine blk_drew ?_ | refine blk_alloc ?_ _)); refine blk_far ?_ NB607_635.out _; (with_reducible repeat (first | refine blk_drewN ?_ _ | refine blk_drew ?_ | refine blk_alloc ?_ _)); refine blk_far ?_ NB607_635.out _; (with_reducible repeat (first | refine blk_drewN ?_ _ | refine blk_drew ?_ | refine blk_alloc ?_ _)); exact BK607.out) hb); have n3_ := Aside0.mk (blk_below (g := gb629) (o := .cells #[.int .i64 t624, .slice Ao107 t625.length co107] 24 (0, 0)) (by (with_reducible repeat (first | refine blk_drewN ?_ _ | refine blk_drew ?_ | refine blk_alloc ?_ _)); refine blk_far ?_ NB629_635.out _; (with_reducible repeat (first | refine blk_drewN ?_ _ | refine blk_drew ?_ | refine blk_alloc ?_ _)); refine blk_far ?_ NB629_635.out _; (with_reducible repeat (first | refine blk_drewN ?_ _ | refine blk_drew ?_ | refine blk_alloc ?_ _)); exact BK629.out) hb); have n4_ := Aside0.mk (blk_below (g := gb635) (o := .cells #[.int .i64 t630, .slice Ao114 t631.length co114] 24 (0, 0)) (by (with_reducible repeat (first | refine blk_drewN ?_ _ | refine blk_drew ?_ | refine blk_alloc ?_ _)); refine blk_put (cs := #[.int .i64 t630, .slice none 0 0]) ?_ 1 _ rfl; (with_reducible repeat (first | refine blk_drewN ?_ _ | refine blk_drew ?_ | refine blk_alloc ?_ _)); refine blk_put (cs := #[.int .i64 0, .slice none 0 0]) ?_ 0 _ rfl; (with_reducible repeat (first | refine blk_drewN ?_ _ | refine blk_drew ?_ | refine blk_alloc ?_ _)); exact BK635.out) hb); have n5_ := Aside0.mk (below_step (by repeat (first | (with_reducible first | exact HB.out | apply below_alloc | apply pw_below_drewN | apply below_drew1 | refine below_set ?_ GE607.out | refine below_set ?_ GE629.out | refine below_set ?_ GE635.out) | exact HB.out)) hb); clear HO627; clear HO633; clear BK607; clear BK629; clear BK635; clear HB; have HO627 := n0_; have HO633 := n1_; have BK607 := n2_; have BK629 := n3_; have BK635 := n4_; have HB := n5_; clear n0_ n1_ n2_ n3_ n4_ n5_; (try clear hb); (try clear hb2); (try clear hk); (try clear hi); have hcz117_0 : w116.cell? ⟨gb635, 0, none⟩ = some (.int .i64 t630) := (blk_cell BK635.out 0).trans rfl; have hcz117_1 : w116.cell? ⟨gb635, 1, none⟩ = some (.slice Ao114 t631.length co114) := (blk_cell BK635.out 1).trans rfl; have hfz117_0 := blk_frozen BK635.out 0; have hfz117_1 := blk_frozen BK635.out 1) | (go_at_call 47; (with_reducible refine (S2.out _ _ _ ?side1 ?side2).mono ?_); (case side1 => repeat (first | exact (Kd.R_reads' HO633.out).2.2 | (with_reducible refine Kd.C_alloc ?_ _) | (with_reducible refine Kd.C_drewN ?_ _) | (with_reducible refine Kd.C_drew ?_))); (case side2 => exact (Kd.R_reads' HO633.out).2.1); rintro e w118 ⟨rfl, hb⟩; have n0_ := Aside0.mk (Kd.R_below (by (with_reducible repeat (first | apply Kd.R_alloc | apply Kd.R_drewN | apply Kd.R_drew)); exact HO627.out) hb); have n1_ := Aside0.mk (Kd.R_below (by (with_reducible repeat (first | apply Kd.R_alloc | apply Kd.R_drewN | apply Kd.R_drew)); exact HO633.out) hb); have n2_ := Aside0.mk (blk_below (g := gb607) (o := .cells #[.int .i64 a0_0, .slice A0_1 l0_1.length c0_1] 24 (0, 0)) (by (with_reducible repeat (first | refine blk_drewN ?_ _ | refine blk_drew ?_ | refine blk_alloc ?_ _)); exact BK607.out) hb); have n3_ := Aside0.mk (blk_below (g := gb629) (o := .cells #[.int .i64 t624, .slice Ao107 t625.length co107] 24 (0, 0)) (by (with_reducible repeat (first | refine blk_drewN ?_ _ | refine blk_drew ?_ | refine blk_alloc ?_ _)); exact BK629.out) hb); have n4_ := Aside0.mk (blk_below (g := gb635) (o := .cells #[.int .i64 t630, .slice Ao114 t631.length co114] 24 (0, 0)) (by (with_reducible repeat (first | refine blk_drewN ?_ _ | refine blk_drew ?_ | refine blk_alloc ?_ _)); exact BK635.out) hb); have n5_ := Aside0.mk (below_step (by repeat (first | (with_reducible first | exact HB.out | apply below_alloc | apply pw_below_drewN | apply below_drew1 | refine below_set ?_ GE607.out | refine below_set ?_ GE629.out | refine below_set ?_ GE635.out) | exact HB.out)) hb); clear HO627; clear HO633; clear BK607; clear BK629; clear BK635; clear HB; have HO627 := n0_; have HO633 := n1_; have BK607 := n2_; have BK629 := n3_; have BK635 := n4_; have HB := n5_; clear n0_ n1_ n2_ n3_ n4_ n5_; (try clear hb); (try clear hb2); (try clear hk); (try clear hi)) | (go_at_call 32; (with_reducible refine (tenorlaw6_awake.calls  t638 _ A91.out).mono ?_); rintro e w119 ⟨rfl, hb⟩; have n0_ := Aside0.mk (Kd.R_below (by (with_reducible repeat (first | apply Kd.R_alloc | apply Kd.R_drewN | apply Kd.R_drew)); exact HO627.out) hb); have n1_ := Aside0.mk (Kd.R_below (by (with_reducible repeat (first | apply Kd.R_alloc | apply Kd.R_drewN | apply Kd.R_drew)); exact HO633.out) hb); have n2_ := Aside0.mk (blk_below (g := gb607) (o := .cells #[.int .i64 a0_0, .slice A0_1 l0_1.length c0_1] 24 (0, 0)) (by (with_reducible repeat (first | refine blk_drewN ?_ _ | refine blk_drew ?_ | refine blk_alloc ?_ _)); exact BK607.out) hb); have n3_ := Aside0.mk (blk_below (g := gb629) (o := .cells #[.int .i64 t624, .slice Ao107 t625.length co107] 24 (0, 0)) (by (with_reducible repeat (first | refine blk_drewN ?_ _ | refine blk_drew ?_ | refine blk_alloc ?_ _)); exact BK629.out) hb); have n4_ := Aside0.mk (blk_below (g := gb635) (o := .cells #[.int .i64 t630, .slice Ao114 t631.length co114] 24 (0, 0)) (by (with_reducible repeat (first | refine blk_drewN ?_ _ | refine blk_drew ?_ | refine blk_alloc ?_ _)); exact BK635.out) hb); have n5_ := Aside0.mk (below_step (by repeat (first | (with_reducible first | exact HB.out | apply below_alloc | apply pw_below_drewN | apply below_drew1 | refine below_set ?_ GE607.out | refine below_set ?_ GE629.out | refine below_set ?_ GE635.out) | exact HB.out)) hb); clear HO627; clear HO633; clear BK607; clear BK629; clear BK635; clear HB; have HO627 := n0_; have HO633 := n1_; have BK607 := n2_; have BK629 := n3_; have BK635 := n4_; have HB := n5_; clear n0_ n1_ n2_ n3_ n4_ n5_; (try clear hb); (try clear hb2); (try clear hk); (try clear hi)))
                    go_ret
                    exact ⟨by first | rfl | (simp [errW_none, errW_some] <;> rfl) | (simp [*, errW_none, errW_some] <;> rfl), by repeat (first | (with_reducible first | exact HB.out | apply below_alloc | apply pw_below_drewN | apply below_drew1 | refine below_set ?_ GE607.out | refine below_set ?_ GE629.out | refine below_set ?_ GE635.out) | exact HB.out)⟩
                   ·
                    replace c90 := Bool.eq_false_iff.mpr c90;subst c90
                    have H1 : (some false) = some r := by rw [if_neg (show ¬ (false = true) by decide)] at H; exact H
                    clear H;have H := H1;clear H1
                    exact absurd (H.trans (congrArg some HT)) (by decide)
                  ·
                   replace c88 := Bool.eq_false_iff.mpr c88;subst c88
                   have H1 : (some false) = some r := by rw [if_neg (show ¬ (false = true) by decide)] at H; exact H
                   clear H;have H := H1;clear H1
                   exact absurd (H.trans (congrArg some HT)) (by decide)
                 ·
                  rw [if_neg c86] at H
                  have c86b0 : (t634 == t609) = false := beq_eq_false_iff_ne.mpr c86
                  have c86b1 : (t634 != t609) = true := bne_iff_ne.mpr c86
                  exact absurd (H.trans (congrArg some HT)) (by decide)
                ·
                 rw [if_neg c85] at H
                 have c85b0 : (t628 == t609) = false := beq_eq_false_iff_ne.mpr c85
                 have c85b1 : (t628 != t609) = true := bne_iff_ne.mpr c85
                 exact absurd (H.trans (congrArg some HT)) (by decide)
               ·
                rw [if_neg c84] at H
                have c84b0 : (t623 == t609) = false := beq_eq_false_iff_ne.mpr c84
                have c84b1 : (t623 != t609) = true := bne_iff_ne.mpr c84
                exact absurd (H.trans (congrArg some HT)) (by decide)
              ·
               rw [if_neg c83] at H
               have c83b0 : (t621 == t609) = false := beq_eq_false_iff_ne.mpr c83
               have c83b1 : (t621 != t609) = true := bne_iff_ne.mpr c83
               exact absurd (H.trans (congrArg some HT)) (by decide)
             ·
              rw [if_neg c82] at H
              have c82b0 : (t619 == t609) = false := beq_eq_false_iff_ne.mpr c82
              have c82b1 : (t619 != t609) = true := bne_iff_ne.mpr c82
              exact absurd (H.trans (congrArg some HT)) (by decide)
            ·
             rw [if_neg c81] at H
             have c81b0 : (t617 == t609) = false := beq_eq_false_iff_ne.mpr c81
             have c81b1 : (t617 != t609) = true := bne_iff_ne.mpr c81
             exact absurd (H.trans (congrArg some HT)) (by decide)
           ·
            rw [if_neg c80] at H
            have c80b0 : (t615 == t609) = false := beq_eq_false_iff_ne.mpr c80
            have c80b1 : (t615 != t609) = true := bne_iff_ne.mpr c80
            exact absurd (H.trans (congrArg some HT)) (by decide)
          ·
           rw [if_neg c79] at H
           have c79b0 : (t622 == 0) = false := beq_eq_false_iff_ne.mpr c79
           have c79b1 : (t622 != 0) = true := bne_iff_ne.mpr c79
           exact absurd (H.trans (congrArg some HT)) (by decide)
         ·
          rw [if_neg c78] at H
          have c78b0 : (t620 == 0) = false := beq_eq_false_iff_ne.mpr c78
          have c78b1 : (t620 != 0) = true := bne_iff_ne.mpr c78
          exact absurd (H.trans (congrArg some HT)) (by decide)
        ·
         rw [if_neg c77] at H
         have c77b0 : (t618 == 0) = false := beq_eq_false_iff_ne.mpr c77
         have c77b1 : (t618 != 0) = true := bne_iff_ne.mpr c77
         exact absurd (H.trans (congrArg some HT)) (by decide)

end Go.Proofs.Ytoncignjcgjhhaa.Q
