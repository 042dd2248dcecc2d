/- Contracts of functions of the seat's program: each Go function's Lean function and its walk, written by a program of this session over the kit's print. Not trusted: Lean checks it. -/
import Derived.Test.YtoncignjcgjhhaaZGA
import Derived.Test.YtoncignjcgjhhaaZGK
import Derived.Test.YtoncignjcgjhhaaZGL
import Derived.Test.YtoncignjcgjhhaaZQx58
import Derived.Test.YtoncignjcgjhhaaZV
set_option linter.unusedVariables false
set_option linter.unusedSimpArgs false
namespace Go.Proofs.Ytoncignjcgjhhaa.Q
open Go.RowKit Go.Proofs.YtoncignjcgjhhaaW.PrintWords Go.Proofs.YtoncignjcgjhhaaW.PrintLast Go.Proofs.YtoncignjcgjhhaaW.PrintMore
attribute [local go_sem] max2_int min2_int max_two min_two max_three min_three max_four min_four   -- for this text's walks alone
set_option linter.unusedVariables false
set_option linter.unusedSimpArgs false

/-! ### tenorlaw6_CalBoth: function 16 -/
def tenorlaw6_CalBoth.j0 : Nat → Int → Bool → Int → List (S63) → Int → List (S63) → Int → List (S63) → Option (Bool)
  | 0, _, _, _, _, _, _, _, _ => none
  | k + 1, x2, x34, x693000, x693001, x694000, x694001, x700000, x700001 => if x34 = true then ((tenorlaw6_awake.f).bind fun t700 => (some t700)) else ((cal_Open.f x693000 x693001 x2).bind fun bt701 => ((cal_Open.f x694000 x694001 x2).bind fun bt703 => ((cal_Open.f x700000 x700001 x2).bind fun bt705 => (if bt701.2 = bt703.2 then (if bt703.2 = bt705.2 then (if bt701.1 = true then (if (bt705.1 == bt703.1) = true then ((tenorlaw6_awake.f).bind fun t707 => (some t707)) else (some false)) else (if (bt705.1 == false) = true then ((tenorlaw6_awake.f).bind fun t708 => (some t708)) else (some false))) else (some false)) else (some false)))))
def tenorlaw6_CalBoth.f (k : Nat) (a0_0 : Int) (l0_1 : List (S63)) (a1_0 : Int) (l1_1 : List (S63)) (a2 : Int) : Option (Bool) := (cal_Join.f k a0_0 l0_1 a1_0 l1_1).bind fun bt694 => (if (l0_1.length : Int) > 64 then (tenorlaw6_CalBoth.j0 k a2 true a0_0 l0_1 a1_0 l1_1 bt694.1 bt694.2.1) else (if (l1_1.length : Int) > 64 then (tenorlaw6_CalBoth.j0 k a2 true a0_0 l0_1 a1_0 l1_1 bt694.1 bt694.2.1) else (tenorlaw6_CalBoth.j0 k a2 (bt694.2.2 != 0) a0_0 l0_1 a1_0 l1_1 bt694.1 bt694.2.1)))
theorem tenorlaw6_CalBoth.mono_l : ∀ k, (∀ y0 y1 y2 y3 y4 y5 y6 y7, LeO (tenorlaw6_CalBoth.j0 k y0 y1 y2 y3 y4 y5 y6 y7) (tenorlaw6_CalBoth.j0 (k + 1) y0 y1 y2 y3 y4 y5 y6 y7))
  | 0 => fun _ _ _ _ _ _ _ _ r h => by simp [tenorlaw6_CalBoth.j0] at h
  | k + 1 => by
    have ih0 := tenorlaw6_CalBoth.mono_l k
    · intro y0 y1 y2 y3 y4 y5 y6 y7
      unfold tenorlaw6_CalBoth.j0
      repeat' first
      | (with_reducible exact ih0 _ _ _ _ _ _ _ _)
      | (with_reducible exact cal_Join.mono _ _ _ _ _)
      | (with_reducible exact LeO.refl _)
      | (with_reducible exact LeO.none _)
      | (with_reducible refine LeO.ite ?_ ?_)
      | (with_reducible refine LeO.bind ?_ (fun _ => ?_))
      | exact ih0 _ _ _ _ _ _ _ _
      | exact cal_Join.mono _ _ _ _ _
      | exact LeO.none _
      | refine LeO.ite ?_ ?_
      | refine LeO.bind ?_ (fun _ => ?_)
theorem tenorlaw6_CalBoth.mono : ∀ a0 a1 a2 a3 a4 k, LeO (tenorlaw6_CalBoth.f k a0 a1 a2 a3 a4) (tenorlaw6_CalBoth.f (k + 1) a0 a1 a2 a3 a4) := by
  intro a0 a1 a2 a3 a4 k
  have ih0 := tenorlaw6_CalBoth.mono_l k
  unfold tenorlaw6_CalBoth.f
  repeat' first
      | (with_reducible exact ih0 _ _ _ _ _ _ _ _)
      | (with_reducible exact cal_Join.mono _ _ _ _ _)
      | (with_reducible exact LeO.refl _)
      | (with_reducible exact LeO.none _)
      | (with_reducible refine LeO.ite ?_ ?_)
      | (with_reducible refine LeO.bind ?_ (fun _ => ?_))
      | exact ih0 _ _ _ _ _ _ _ _
      | exact cal_Join.mono _ _ _ _ _
      | exact LeO.none _
      | refine LeO.ite ?_ ?_
      | refine LeO.bind ?_ (fun _ => ?_)
set_option maxHeartbeats 8000000 in
set_option maxRecDepth 100000 in
theorem tenorlaw6_CalBoth.calls (k : Nat) (a0_0 : Int) (A0_1 : Option Addr) (c0_1 : Nat) (l0_1 : List (S63)) (a1_0 : Int) (A1_1 : Option Addr) (c1_1 : Nat) (l1_1 : List (S63)) (a2 : Int) (r : Bool) (w : World) (hr0_1 : Kd.C k63 w A0_1 l0_1.length l0_1) (hc0_1 : l0_1.length ≤ c0_1) (hr1_1 : Kd.C k63 w A1_1 l1_1.length l1_1) (hc1_1 : l1_1.length ≤ c1_1) (h : tenorlaw6_CalBoth.f k a0_0 l0_1 a1_0 l1_1 a2 = some r) (HT : r = true) :
    Calls Try.prog 16 #[.agg #[.int .i64 a0_0, .slice A0_1 l0_1.length c0_1], .agg #[.int .i64 a1_0, .slice A1_1 l1_1.length c1_1], .int .i64 a2] w fun e w' => e = .returned (.bool r) ∧ Below w.heap.size w w' := by
  have hu24 := Try.underlying24
  have HR0_1 := Aside0.mk hr0_1
  have HC0_1 := Aside0.mk hc0_1
  clear hr0_1 hc0_1
  have HR1_1 := Aside0.mk hr1_1
  have HC1_1 := Aside0.mk hc1_1
  clear hr1_1 hc1_1
  have HB := Aside0.mk (Below.refl w.heap.size w)
  have H : ((cal_Join.f k a0_0 l0_1 a1_0 l1_1).bind fun bt694 => (if (l0_1.length : Int) > 64 then (tenorlaw6_CalBoth.j0 k a2 true a0_0 l0_1 a1_0 l1_1 bt694.1 bt694.2.1) else (if (l1_1.length : Int) > 64 then (tenorlaw6_CalBoth.j0 k a2 true a0_0 l0_1 a1_0 l1_1 bt694.1 bt694.2.1) else (tenorlaw6_CalBoth.j0 k a2 (bt694.2.2 != 0) a0_0 l0_1 a1_0 l1_1 bt694.1 bt694.2.1)))) = some r := h
  clear h
  replace H := Option.bind_eq_some_iff.mp H
  obtain ⟨⟨t694, t695, t698⟩, A40, H⟩ := H
  replace H : (if (l0_1.length : Int) > 64 then (tenorlaw6_CalBoth.j0 k a2 true a0_0 l0_1 a1_0 l1_1 t694 t695) else (if (l1_1.length : Int) > 64 then (tenorlaw6_CalBoth.j0 k a2 true a0_0 l0_1 a1_0 l1_1 t694 t695) else (tenorlaw6_CalBoth.j0 k a2 (t698 != 0) a0_0 l0_1 a1_0 l1_1 t694 t695))) = some r := H
  have A4 := Aside0.mk A40
  clear A40
  have HC5 := Aside0.mk H
  clear H
  go_enter Try.func16, Try.ntmps16
  go_upto_region 2 with (first | ((with_reducible refine gate_dst (N := 3) rfl ?_); (try (refine gate_guard (by rfl) ?_; dsimp only)); refine box_event ?hg (N := 3) ?hd (cs := #[.int .i64 a0_0, .slice A0_1 l0_1.length c0_1]) (t := 24) ?hr ?_; (case hd => rfl); (case hg => rfl); (case hr => first | (go_simp; done) | (go_simp; rfl)); intro gb692 hg w6 hbox hb; have n0_ := Aside0.mk (below_step (by repeat (first | (with_reducible first | exact HB.out | apply below_alloc | apply pw_below_drewN | apply below_drew1) | exact HB.out)) hb); have n1_ := Aside0.mk (hbox); have n2_ := Aside0.mk ((by rw [hg]; exact (below_size (by repeat (first | (with_reducible first | exact HB.out | apply below_alloc | apply pw_below_drewN | apply below_drew1) | exact HB.out))) : w.heap.size ≤ gb692)); have n3_ := Aside0.mk ((by rw [hg]; exact (below_size (by repeat (first | (with_reducible first | exact HB.out | apply below_alloc | apply pw_below_drewN | apply below_drew1) | exact HB.out))) : w.heap.size ≤ gb692)); clear HB; have HB := n0_; have BK692 := n1_; have GW692 := n2_; have GE692 := n3_; clear n0_ n1_ n2_ n3_; clear hb hbox hg) | ((with_reducible refine gate_dst (N := 4) rfl ?_); (try (refine gate_guard (by rfl) ?_; dsimp only)); refine box_event ?hg (N := 4) ?hd (cs := #[.int .i64 a1_0, .slice A1_1 l1_1.length c1_1]) (t := 24) ?hr ?_; (case hd => rfl); (case hg => rfl); (case hr => first | (go_simp; done) | (go_simp; rfl)); intro gb693 hg w7 hbox hb; have n0_ := Aside0.mk (blk_below (g := gb692) (o := .cells #[.int .i64 a0_0, .slice A0_1 l0_1.length c0_1] 24 (0, 0)) (by (with_reducible repeat (first | refine blk_drewN ?_ _ | refine blk_drew ?_ | refine blk_alloc ?_ _)); exact BK692.out) hb); have n1_ := Aside0.mk (below_step (by repeat (first | (with_reducible first | exact HB.out | apply below_alloc | apply pw_below_drewN | apply below_drew1 | refine below_set ?_ GE692.out) | exact HB.out)) hb); have n2_ := Aside0.mk (hbox); have n3_ := Aside0.mk ((by rw [hg]; exact (below_size (by repeat (first | (with_reducible first | exact HB.out | apply below_alloc | apply pw_below_drewN | apply below_drew1 | refine below_set ?_ GE692.out) | exact HB.out))) : w.heap.size ≤ gb693)); have n4_ := Aside0.mk ((by rw [hg]; exact (below_size (by repeat (first | (with_reducible first | exact HB.out | apply below_alloc | apply pw_below_drewN | apply below_drew1 | refine below_set ?_ GE692.out) | exact HB.out))) : w.heap.size ≤ gb693)); have n5_ := Aside0.mk ((by rw [hg]; exact Nat.ne_of_lt (blk_lt (g := gb692) (o := .cells #[.int .i64 a0_0, .slice A0_1 l0_1.length c0_1] 24 (0, 0)) (by (with_reducible repeat (first | refine blk_drewN ?_ _ | refine blk_drew ?_ | refine blk_alloc ?_ _)); exact BK692.out)) : gb692 ≠ gb693)); have n6_ := Aside0.mk ((by rw [hg]; exact Nat.ne_of_gt (blk_lt (g := gb692) (o := .cells #[.int .i64 a0_0, .slice A0_1 l0_1.length c0_1] 24 (0, 0)) (by (with_reducible repeat (first | refine blk_drewN ?_ _ | refine blk_drew ?_ | refine blk_alloc ?_ _)); exact BK692.out)) : gb693 ≠ gb692)); clear BK692; clear HB; have BK692 := n0_; have HB := n1_; have BK693 := n2_; have GW693 := n3_; have GE693 := n4_; have NB692_693 := n5_; have NB693_692 := n6_; clear n0_ n1_ n2_ n3_ n4_ n5_ n6_; clear hb hbox hg; have hnb8 := NB692_693.out; have hnc8 := NB693_692.out; have hcz9_0 : w7.cell? ⟨gb692, 0, none⟩ = some (.int .i64 a0_0) := (blk_cell BK692.out 0).trans rfl; have hcz9_1 : w7.cell? ⟨gb692, 1, none⟩ = some (.slice A0_1 l0_1.length c0_1) := (blk_cell BK692.out 1).trans rfl; have hfz9_0 := blk_frozen BK692.out 0; have hfz9_1 := blk_frozen BK692.out 1; have hcz10_0 : w7.cell? ⟨gb693, 0, none⟩ = some (.int .i64 a1_0) := (blk_cell BK693.out 0).trans rfl; have hcz10_1 : w7.cell? ⟨gb693, 1, none⟩ = some (.slice A1_1 l1_1.length c1_1) := (blk_cell BK693.out 1).trans rfl; have hfz10_0 := blk_frozen BK693.out 0; have hfz10_1 := blk_frozen BK693.out 1) | ((with_reducible refine gate_callee (f := 46) rfl ?_); refine goesL_ (some 18) rfl rfl Try.func46 (by kernel_rfl) rfl #[.agg #[.int .i64 a0_0, .slice A0_1 l0_1.length c0_1], .agg #[.int .i64 a1_0, .slice A1_1 l1_1.length c1_1]] rfl (by (try simp only [List.map_toArray, List.map_cons, List.map_nil]); first | done | rfl | (simp only [List.length_drop, List.length_take]; rfl)) ?_; (with_reducible refine (cal_Join.calls k a0_0 _ _ l0_1 a1_0 _ _ l1_1 t694 t695 t698 _ ?side1 ?side2 ?side3 ?side4 A4.out).mono ?_); (case side1 => repeat (first | exact (Kd.C_below HR0_1.out HB.out) | (with_reducible refine Kd.C_alloc ?_ _) | (with_reducible refine Kd.C_drewN ?_ _) | (with_reducible refine Kd.C_drew ?_))); (case side2 => exact HC0_1.out); (case side3 => repeat (first | exact (Kd.C_below HR1_1.out HB.out) | (with_reducible refine Kd.C_alloc ?_ _) | (with_reducible refine Kd.C_drewN ?_ _) | (with_reducible refine Kd.C_drew ?_))); (case side4 => exact HC1_1.out); rintro e w11 ⟨v696, rfl, ho0, hb⟩; refine ⟨_, rfl, ?_⟩; have n0_ := Aside0.mk (Kd.R_lower ho0 (below_size (by repeat (first | (with_reducible first | exact HB.out | apply below_alloc | apply pw_below_drewN | apply below_drew1 | refine below_set ?_ GE692.out | refine below_set ?_ GE693.out) | exact HB.out)))); have n1_ := Aside0.mk (blk_below (g := gb692) (o := .cells #[.int .i64 a0_0, .slice A0_1 l0_1.length c0_1] 24 (0, 0)) (by (with_reducible repeat (first | refine blk_drewN ?_ _ | refine blk_drew ?_ | refine blk_alloc ?_ _)); exact BK692.out) hb); have n2_ := Aside0.mk (blk_below (g := gb693) (o := .cells #[.int .i64 a1_0, .slice A1_1 l1_1.length c1_1] 24 (0, 0)) (by (with_reducible repeat (first | refine blk_drewN ?_ _ | refine blk_drew ?_ | refine blk_alloc ?_ _)); exact BK693.out) hb); have n3_ := Aside0.mk (below_step (by repeat (first | (with_reducible first | exact HB.out | apply below_alloc | apply pw_below_drewN | apply below_drew1 | refine below_set ?_ GE692.out | refine below_set ?_ GE693.out) | exact HB.out)) hb); clear BK692; clear BK693; clear HB; have HO697 := n0_; have BK692 := n1_; have BK693 := n2_; have HB := n3_; clear n0_ n1_ n2_ n3_; (try clear hb); (try clear hb2); (try clear hk); (try clear hi); (try clear ho0)) | ((with_reducible refine gate_dst (N := 7) rfl ?_); (try (refine gate_guard (by rfl) ?_; dsimp only)); refine box_event ?hg (N := 7) ?hd (cs := #[.int .i64 0, .slice none 0 0]) (t := 24) ?hr ?_; (case hd => rfl); (case hg => rfl); (case hr => first | (go_simp; done) | (go_simp; rfl)); intro gb699 hg w12 hbox hb; have n0_ := Aside0.mk (Kd.R_below (by (with_reducible repeat (first | apply Kd.R_alloc | apply Kd.R_drewN | apply Kd.R_drew)); exact HO697.out) hb); have n1_ := Aside0.mk (blk_below (g := gb692) (o := .cells #[.int .i64 a0_0, .slice A0_1 l0_1.length c0_1] 24 (0, 0)) (by (with_reducible repeat (first | refine blk_drewN ?_ _ | refine blk_drew ?_ | refine blk_alloc ?_ _)); exact BK692.out) hb); have n2_ := Aside0.mk (blk_below (g := gb693) (o := .cells #[.int .i64 a1_0, .slice A1_1 l1_1.length c1_1] 24 (0, 0)) (by (with_reducible repeat (first | refine blk_drewN ?_ _ | refine blk_drew ?_ | refine blk_alloc ?_ _)); exact BK693.out) hb); have n3_ := Aside0.mk (below_step (by repeat (first | (with_reducible first | exact HB.out | apply below_alloc | apply pw_below_drewN | apply below_drew1 | refine below_set ?_ GE692.out | refine below_set ?_ GE693.out) | exact HB.out)) hb); have n4_ := Aside0.mk (hbox); have n5_ := Aside0.mk ((by rw [hg]; exact (below_size (by repeat (first | (with_reducible first | exact HB.out | apply below_alloc | apply pw_below_drewN | apply below_drew1 | refine below_set ?_ GE692.out | refine below_set ?_ GE693.out) | exact HB.out))) : w.heap.size ≤ gb699)); have n6_ := Aside0.mk ((by rw [hg]; exact (below_size (by repeat (first | (with_reducible first | exact HB.out | apply below_alloc | apply pw_below_drewN | apply below_drew1 | refine below_set ?_ GE692.out | refine below_set ?_ GE693.out) | exact HB.out))) : w.heap.size ≤ gb699)); have n7_ := Aside0.mk ((by rw [hg]; exact Nat.ne_of_lt (blk_lt (g := gb692) (o := .cells #[.int .i64 a0_0, .slice A0_1 l0_1.length c0_1] 24 (0, 0)) (by (with_reducible repeat (first | refine blk_drewN ?_ _ | refine blk_drew ?_ | refine blk_alloc ?_ _)); exact BK692.out)) : gb692 ≠ gb699)); have n8_ := Aside0.mk ((by rw [hg]; exact Nat.ne_of_gt (blk_lt (g := gb692) (o := .cells #[.int .i64 a0_0, .slice A0_1 l0_1.length c0_1] 24 (0, 0)) (by (with_reducible repeat (first | refine blk_drewN ?_ _ | refine blk_drew ?_ | refine blk_alloc ?_ _)); exact BK692.out)) : gb699 ≠ gb692)); have n9_ := Aside0.mk ((by rw [hg]; exact Nat.ne_of_lt (blk_lt (g := gb693) (o := .cells #[.int .i64 a1_0, .slice A1_1 l1_1.length c1_1] 24 (0, 0)) (by (with_reducible repeat (first | refine blk_drewN ?_ _ | refine blk_drew ?_ | refine blk_alloc ?_ _)); exact BK693.out)) : gb693 ≠ gb699)); have n10_ := Aside0.mk ((by rw [hg]; exact Nat.ne_of_gt (blk_lt (g := gb693) (o := .cells #[.int .i64 a1_0, .slice A1_1 l1_1.length c1_1] 24 (0, 0)) (by (with_reducible repeat (first | refine blk_drewN ?_ _ | refine blk_drew ?_ | refine blk_alloc ?_ _)); exact BK693.out)) : gb699 ≠ gb693)); clear HO697; clear BK692; clear BK693; clear HB; have HO697 := n0_; have BK692 := n1_; have BK693 := n2_; have HB := n3_; have BK699 := n4_; have GW699 := n5_; have GE699 := n6_; have NB692_699 := n7_; have NB699_692 := n8_; have NB693_699 := n9_; have NB699_693 := n10_; clear n0_ n1_ n2_ n3_ n4_ n5_ n6_ n7_ n8_ n9_ n10_; clear hb hbox hg; have hnb13 := NB699_692.out; have hnc13 := NB692_699.out; have hnb14 := NB699_693.out; have hnc14 := NB693_699.out; have hcz15_0 : w12.cell? ⟨gb699, 0, none⟩ = some (.int .i64 0) := (blk_cell BK699.out 0).trans rfl; have hcz15_1 : w12.cell? ⟨gb699, 1, none⟩ = some (.slice none 0 0) := (blk_cell BK699.out 1).trans rfl; have hfz15_0 := blk_frozen BK699.out 0; have hfz15_1 := blk_frozen BK699.out 1; obtain ⟨Ao16, co16, eo16⟩ := Kd.R_slice HO697.out; subst eo16))
  (try simp only [Act.put, List.setIfInBounds_toArray, List.set_cons_zero, List.set_cons_succ])
  go_cut [34] (fun v34 wc => ∃ (kq : Nat) (x34_4 : Bool), v34 = .bool x34_4 ∧ Aside0 (tenorlaw6_CalBoth.j0 kq a2 x34_4 a0_0 l0_1 a1_0 l1_1 t694 t695 = some r) ∧ Aside0 (kq ≤ k) ∧ Aside0 (Kd.R k63 63 wc w.heap.size (fun _ => True) (.slice Ao16 t695.length co16) t695) ∧ Aside0 (wc.heap[gb692]? = some (.cells #[.int .i64 a0_0, (.slice A0_1 l0_1.length c0_1)] 24 (0, 0))) ∧ Aside0 (wc.heap[gb693]? = some (.cells #[.int .i64 a1_0, (.slice A1_1 l1_1.length c1_1)] 24 (0, 0))) ∧ Aside0 (wc.heap[gb699]? = some (.cells #[.int .i64 t694, (.slice Ao16 t695.length co16)] 24 (0, 0))) ∧ Aside0 (Below w.heap.size w wc))
  case first =>
    have H := HC5.out
    clear HC5
    by_cases c17 : (l0_1.length : Int) > 64
    · rw [if_pos c17] at H
      have c17b0 : decide (64 < (l0_1.length : Int)) = true := decide_eq_true c17
      have c17b1 : decide (64 < l0_1.length) = true := decide_eq_true (by omega)
      clear c17
      (first | rw [c17b0] | (simp only [i64_w, i32_w]; rw [c17b0]) | skip)
      have H' := Aside0.mk H
      clear H
      have hnb18 := NB692_693.out
      have hnc18 := NB693_692.out
      have hnb19 := NB692_699.out
      have hnc19 := NB699_692.out
      have hcz20_0 : w12.cell? ⟨gb692, 0, none⟩ = some (.int .i64 a0_0) := (blk_cell BK692.out 0).trans rfl
      have hcz20_1 : w12.cell? ⟨gb692, 1, none⟩ = some (.slice A0_1 l0_1.length c0_1) := (blk_cell BK692.out 1).trans rfl
      have hfz20_0 := blk_frozen BK692.out 0
      have hfz20_1 := blk_frozen BK692.out 1
      go_wp2
      go_meet
      case rel => exact ⟨_, (true), (by first | rfl | (simp; done) | (simp [*]; done)), H', ⟨by first | omega | exact Nat.le_refl _⟩, ⟨by (with_reducible repeat (first | apply Kd.R_alloc | apply Kd.R_drewN | apply Kd.R_drew)); exact Kd.R_mono (Kd.R_far (p := ⟨gb699, 1, none⟩) (Kd.R_far (p := ⟨gb699, 0, none⟩) (Kd.R_types HO697.out BK699.out (by decide)) (fun _ hk => hk.2) (.int .i64 t694)) (fun _ hk => hk.2) (.slice Ao16 t695.length co16)) (fun _ hk => trivial)⟩, ⟨by (with_reducible repeat (first | refine blk_drewN ?_ _ | refine blk_drew ?_ | refine blk_alloc ?_ _)); refine blk_far ?_ NB692_699.out _; (with_reducible repeat (first | refine blk_drewN ?_ _ | refine blk_drew ?_ | refine blk_alloc ?_ _)); refine blk_far ?_ NB692_699.out _; (with_reducible repeat (first | refine blk_drewN ?_ _ | refine blk_drew ?_ | refine blk_alloc ?_ _)); exact BK692.out⟩, ⟨by (with_reducible repeat (first | refine blk_drewN ?_ _ | refine blk_drew ?_ | refine blk_alloc ?_ _)); refine blk_far ?_ NB693_699.out _; (with_reducible repeat (first | refine blk_drewN ?_ _ | refine blk_drew ?_ | refine blk_alloc ?_ _)); refine blk_far ?_ NB693_699.out _; (with_reducible repeat (first | refine blk_drewN ?_ _ | refine blk_drew ?_ | refine blk_alloc ?_ _)); exact BK693.out⟩, ⟨by (with_reducible repeat (first | refine blk_drewN ?_ _ | refine blk_drew ?_ | refine blk_alloc ?_ _)); refine blk_put (cs := #[.int .i64 t694, .slice none 0 0]) ?_ 1 _ rfl; (with_reducible repeat (first | refine blk_drewN ?_ _ | refine blk_drew ?_ | refine blk_alloc ?_ _)); refine blk_put (cs := #[.int .i64 0, .slice none 0 0]) ?_ 0 _ rfl; (with_reducible repeat (first | refine blk_drewN ?_ _ | refine blk_drew ?_ | refine blk_alloc ?_ _)); exact BK699.out⟩, ⟨by repeat (first | (with_reducible first | exact HB.out | apply below_alloc | apply pw_below_drewN | apply below_drew1 | refine below_set ?_ GE692.out | refine below_set ?_ GE693.out | refine below_set ?_ GE699.out) | exact HB.out)⟩⟩
    · rw [if_neg c17] at H
      have c17b0 : decide (64 < (l0_1.length : Int)) = false := decide_eq_false c17
      have c17b1 : decide (64 < l0_1.length) = false := decide_eq_false (by omega)
      clear c17
      (first | rw [c17b0] | (simp only [i64_w, i32_w]; rw [c17b0]) | skip)
      by_cases c21 : (l1_1.length : Int) > 64
      · rw [if_pos c21] at H
        have c21b0 : decide (64 < (l1_1.length : Int)) = true := decide_eq_true c21
        have c21b1 : decide (64 < l1_1.length) = true := decide_eq_true (by omega)
        clear c21
        have H' := Aside0.mk H
        clear H
        have hnb22 := NB692_693.out
        have hnc22 := NB693_692.out
        have hnb23 := NB692_699.out
        have hnc23 := NB699_692.out
        have hcz24_0 : w12.cell? ⟨gb692, 0, none⟩ = some (.int .i64 a0_0) := (blk_cell BK692.out 0).trans rfl
        have hcz24_1 : w12.cell? ⟨gb692, 1, none⟩ = some (.slice A0_1 l0_1.length c0_1) := (blk_cell BK692.out 1).trans rfl
        have hfz24_0 := blk_frozen BK692.out 0
        have hfz24_1 := blk_frozen BK692.out 1
        have hnb25 := NB693_699.out
        have hnc25 := NB699_693.out
        have hcz26_0 : w12.cell? ⟨gb693, 0, none⟩ = some (.int .i64 a1_0) := (blk_cell BK693.out 0).trans rfl
        have hcz26_1 : w12.cell? ⟨gb693, 1, none⟩ = some (.slice A1_1 l1_1.length c1_1) := (blk_cell BK693.out 1).trans rfl
        have hfz26_0 := blk_frozen BK693.out 0
        have hfz26_1 := blk_frozen BK693.out 1
        go_wp2
        go_meet
        case rel => exact ⟨_, (true), (by first | rfl | (simp; done) | (simp [*]; done)), H', ⟨by first | omega | exact Nat.le_refl _⟩, ⟨by (with_reducible repeat (first | apply Kd.R_alloc | apply Kd.R_drewN | apply Kd.R_drew)); exact Kd.R_mono (Kd.R_far (p := ⟨gb699, 1, none⟩) (Kd.R_far (p := ⟨gb699, 0, none⟩) (Kd.R_types HO697.out BK699.out (by decide)) (fun _ hk => hk.2) (.int .i64 t694)) (fun _ hk => hk.2) (.slice Ao16 t695.length co16)) (fun _ hk => trivial)⟩, ⟨by (with_reducible repeat (first | refine blk_drewN ?_ _ | refine blk_drew ?_ | refine blk_alloc ?_ _)); refine blk_far ?_ NB692_699.out _; (with_reducible repeat (first | refine blk_drewN ?_ _ | refine blk_drew ?_ | refine blk_alloc ?_ _)); refine blk_far ?_ NB692_699.out _; (with_reducible repeat (first | refine blk_drewN ?_ _ | refine blk_drew ?_ | refine blk_alloc ?_ _)); exact BK692.out⟩, ⟨by (with_reducible repeat (first | refine blk_drewN ?_ _ | refine blk_drew ?_ | refine blk_alloc ?_ _)); refine blk_far ?_ NB693_699.out _; (with_reducible repeat (first | refine blk_drewN ?_ _ | refine blk_drew ?_ | refine blk_alloc ?_ _)); refine blk_far ?_ NB693_699.out _; (with_reducible repeat (first | refine blk_drewN ?_ _ | refine blk_drew ?_ | refine blk_alloc ?_ _)); exact BK693.out⟩, ⟨by (with_reducible repeat (first | refine blk_drewN ?_ _ | refine blk_drew ?_ | refine blk_alloc ?_ _)); refine blk_put (cs := #[.int .i64 t694, .slice none 0 0]) ?_ 1 _ rfl; (with_reducible repeat (first | refine blk_drewN ?_ _ | refine blk_drew ?_ | refine blk_alloc ?_ _)); refine blk_put (cs := #[.int .i64 0, .slice none 0 0]) ?_ 0 _ rfl; (with_reducible repeat (first | refine blk_drewN ?_ _ | refine blk_drew ?_ | refine blk_alloc ?_ _)); exact BK699.out⟩, ⟨by repeat (first | (with_reducible first | exact HB.out | apply below_alloc | apply pw_below_drewN | apply below_drew1 | refine below_set ?_ GE692.out | refine below_set ?_ GE693.out | refine below_set ?_ GE699.out) | exact HB.out)⟩⟩
      · rw [if_neg c21] at H
        have c21b0 : decide (64 < (l1_1.length : Int)) = false := decide_eq_false c21
        have c21b1 : decide (64 < l1_1.length) = false := decide_eq_false (by omega)
        clear c21
        have H' := Aside0.mk H
        clear H
        have hnb27 := NB692_693.out
        have hnc27 := NB693_692.out
        have hnb28 := NB692_699.out
        have hnc28 := NB699_692.out
        have hcz29_0 : w12.cell? ⟨gb692, 0, none⟩ = some (.int .i64 a0_0) := (blk_cell BK692.out 0).trans rfl
        have hcz29_1 : w12.cell? ⟨gb692, 1, none⟩ = some (.slice A0_1 l0_1.length c0_1) := (blk_cell BK692.out 1).trans rfl
        have hfz29_0 := blk_frozen BK692.out 0
        have hfz29_1 := blk_frozen BK692.out 1
        have hnb30 := NB693_699.out
        have hnc30 := NB699_693.out
        have hcz31_0 : w12.cell? ⟨gb693, 0, none⟩ = some (.int .i64 a1_0) := (blk_cell BK693.out 0).trans rfl
        have hcz31_1 : w12.cell? ⟨gb693, 1, none⟩ = some (.slice A1_1 l1_1.length c1_1) := (blk_cell BK693.out 1).trans rfl
        have hfz31_0 := blk_frozen BK693.out 0
        have hfz31_1 := blk_frozen BK693.out 1
        go_wp2
        go_meet
        case rel => exact ⟨_, ((t698 != 0)), (by first | rfl | (simp; done) | (simp [*]; done)), H', ⟨by first | omega | exact Nat.le_refl _⟩, ⟨by (with_reducible repeat (first | apply Kd.R_alloc | apply Kd.R_drewN | apply Kd.R_drew)); exact Kd.R_mono (Kd.R_far (p := ⟨gb699, 1, none⟩) (Kd.R_far (p := ⟨gb699, 0, none⟩) (Kd.R_types HO697.out BK699.out (by decide)) (fun _ hk => hk.2) (.int .i64 t694)) (fun _ hk => hk.2) (.slice Ao16 t695.length co16)) (fun _ hk => trivial)⟩, ⟨by (with_reducible repeat (first | refine blk_drewN ?_ _ | refine blk_drew ?_ | refine blk_alloc ?_ _)); refine blk_far ?_ NB692_699.out _; (with_reducible repeat (first | refine blk_drewN ?_ _ | refine blk_drew ?_ | refine blk_alloc ?_ _)); refine blk_far ?_ NB692_699.out _; (with_reducible repeat (first | refine blk_drewN ?_ _ | refine blk_drew ?_ | refine blk_alloc ?_ _)); exact BK692.out⟩, ⟨by (with_reducible repeat (first | refine blk_drewN ?_ _ | refine blk_drew ?_ | refine blk_alloc ?_ _)); refine blk_far ?_ NB693_699.out _; (with_reducible repeat (first | refine blk_drewN ?_ _ | refine blk_drew ?_ | refine blk_alloc ?_ _)); refine blk_far ?_ NB693_699.out _; (with_reducible repeat (first | refine blk_drewN ?_ _ | refine blk_drew ?_ | refine blk_alloc ?_ _)); exact BK693.out⟩, ⟨by (with_reducible repeat (first | refine blk_drewN ?_ _ | refine blk_drew ?_ | refine blk_alloc ?_ _)); refine blk_put (cs := #[.int .i64 t694, .slice none 0 0]) ?_ 1 _ rfl; (with_reducible repeat (first | refine blk_drewN ?_ _ | refine blk_drew ?_ | refine blk_alloc ?_ _)); refine blk_put (cs := #[.int .i64 0, .slice none 0 0]) ?_ 0 _ rfl; (with_reducible repeat (first | refine blk_drewN ?_ _ | refine blk_drew ?_ | refine blk_alloc ?_ _)); exact BK699.out⟩, ⟨by repeat (first | (with_reducible first | exact HB.out | apply below_alloc | apply pw_below_drewN | apply below_drew1 | refine below_set ?_ GE692.out | refine below_set ?_ GE693.out | refine below_set ?_ GE699.out) | exact HB.out)⟩⟩
  case rest =>
    clear HC5
    try clear c1
    try clear c2
    try clear p2
    try clear c3
    try clear c4
    try clear c8
    try clear c13
    try clear c14
    try clear c16
    try clear c17
    try clear c17b0
    try clear c17b1
    try clear c18
    try clear c19
    try clear c21
    try clear c21b0
    try clear c21b1
    try clear c22
    try clear c23
    try clear c25
    try clear c27
    try clear c28
    try clear c30
    try clear hcz10_0
    try clear hcz10_1
    try clear hcz15_0
    try clear hcz15_1
    try clear hcz20_0
    try clear hcz20_1
    try clear hcz24_0
    try clear hcz24_1
    try clear hcz26_0
    try clear hcz26_1
    try clear hcz29_0
    try clear hcz29_1
    try clear hcz31_0
    try clear hcz31_1
    try clear hcz9_0
    try clear hcz9_1
    try clear hfz10_0
    try clear hfz10_1
    try clear hfz15_0
    try clear hfz15_1
    try clear hfz20_0
    try clear hfz20_1
    try clear hfz24_0
    try clear hfz24_1
    try clear hfz26_0
    try clear hfz26_1
    try clear hfz29_0
    try clear hfz29_1
    try clear hfz31_0
    try clear hfz31_1
    try clear hfz9_0
    try clear hfz9_1
    obtain ⟨kq, x34_4, rfl, HA, HJ4, HO_700001, BK692, BK693, BK699, HB⟩ := hcut
    cases kq with
    | zero => exact absurd HA.out (by simp [tenorlaw6_CalBoth.j0])
    | succ kj4 =>
      have H := HA.out
      clear HA
      simp only [tenorlaw6_CalBoth.j0] at H
      by_cases c32 : x34_4 = true
      · subst c32
        have H1 : ((tenorlaw6_awake.f).bind fun t700 => (some t700)) = some r := by rw [if_pos rfl] at H; exact H
        clear H
        have H := H1
        clear H1
        replace H := Option.bind_eq_some_iff.mp H
        obtain ⟨t700, A330, H⟩ := H
        replace H : (some t700) = some r := H
        have A33 := Aside0.mk A330
        clear A330
        obtain rfl := Option.some.inj H
        go_wp2_with (first | ((with_reducible refine gate_callee (f := 32) rfl ?_); refine goesL_ (some 35) rfl rfl Try.func32 (by kernel_rfl) rfl #[] rfl (by (try simp only [List.map_toArray, List.map_cons, List.map_nil]); first | done | rfl | (simp only [List.length_drop, List.length_take]; rfl)) ?_; (with_reducible refine (tenorlaw6_awake.calls  t700 _ A33.out).mono ?_); rintro e w34 ⟨rfl, hb⟩; refine ⟨_, rfl, ?_⟩; have n0_ := Aside0.mk (Kd.R_below (by (with_reducible repeat (first | apply Kd.R_alloc | apply Kd.R_drewN | apply Kd.R_drew)); exact HO_700001.out) hb); have n1_ := Aside0.mk (blk_below (g := gb692) (o := .cells #[.int .i64 a0_0, .slice A0_1 l0_1.length c0_1] 24 (0, 0)) (by (with_reducible repeat (first | refine blk_drewN ?_ _ | refine blk_drew ?_ | refine blk_alloc ?_ _)); exact BK692.out) hb); have n2_ := Aside0.mk (blk_below (g := gb693) (o := .cells #[.int .i64 a1_0, .slice A1_1 l1_1.length c1_1] 24 (0, 0)) (by (with_reducible repeat (first | refine blk_drewN ?_ _ | refine blk_drew ?_ | refine blk_alloc ?_ _)); exact BK693.out) hb); have n3_ := Aside0.mk (blk_below (g := gb699) (o := .cells #[.int .i64 t694, .slice Ao16 t695.length co16] 24 (0, 0)) (by (with_reducible repeat (first | refine blk_drewN ?_ _ | refine blk_drew ?_ | refine blk_alloc ?_ _)); exact BK699.out) hb); have n4_ := Aside0.mk (below_step (by repeat (first | (with_reducible first | exact HB.out | apply below_alloc | apply pw_below_drewN | apply below_drew1 | refine below_set ?_ GE692.out | refine below_set ?_ GE693.out | refine below_set ?_ GE699.out) | exact HB.out)) hb); clear HO_700001; clear BK692; clear BK693; clear BK699; clear HB; have HO_700001 := n0_; have BK692 := n1_; have BK693 := n2_; have BK699 := n3_; have HB := n4_; clear n0_ n1_ n2_ n3_ n4_; (try clear hb); (try clear hb2); (try clear hk); (try clear hi)))
        go_ret
        exact ⟨by first | rfl | (simp [errW_none, errW_some] <;> rfl) | (simp [*, errW_none, errW_some] <;> rfl), by repeat (first | (with_reducible first | exact HB.out | apply below_alloc | apply pw_below_drewN | apply below_drew1 | refine below_set ?_ GE692.out | refine below_set ?_ GE693.out | refine below_set ?_ GE699.out) | exact HB.out)⟩
      · replace c32 := Bool.eq_false_iff.mpr c32
        subst c32
        have H1 : ((cal_Open.f a0_0 l0_1 a2).bind fun bt701 => ((cal_Open.f a1_0 l1_1 a2).bind fun bt703 => ((cal_Open.f t694 t695 a2).bind fun bt705 => (if bt701.2 = bt703.2 then (if bt703.2 = bt705.2 then (if bt701.1 = true then (if (bt705.1 == bt703.1) = true then ((tenorlaw6_awake.f).bind fun t707 => (some t707)) else (some false)) else (if (bt705.1 == false) = true then ((tenorlaw6_awake.f).bind fun t708 => (some t708)) else (some false))) else (some false)) else (some false))))) = some r := by rw [if_neg (show ¬ (false = true) by decide)] at H; exact H
        clear H
        have H := H1
        clear H1
        replace H := Option.bind_eq_some_iff.mp H
        obtain ⟨⟨t701, t702⟩, A350, H⟩ := H
        replace H : ((cal_Open.f a1_0 l1_1 a2).bind fun bt703 => ((cal_Open.f t694 t695 a2).bind fun bt705 => (if t702 = bt703.2 then (if bt703.2 = bt705.2 then (if t701 = true then (if (bt705.1 == bt703.1) = true then ((tenorlaw6_awake.f).bind fun t707 => (some t707)) else (some false)) else (if (bt705.1 == false) = true then ((tenorlaw6_awake.f).bind fun t708 => (some t708)) else (some false))) else (some false)) else (some false)))) = some r := H
        have A35 := Aside0.mk A350
        clear A350
        replace H := Option.bind_eq_some_iff.mp H
        obtain ⟨⟨t703, t704⟩, A360, H⟩ := H
        replace H : ((cal_Open.f t694 t695 a2).bind fun bt705 => (if t702 = t704 then (if t704 = bt705.2 then (if t701 = true then (if (bt705.1 == t703) = true then ((tenorlaw6_awake.f).bind fun t707 => (some t707)) else (some false)) else (if (bt705.1 == false) = true then ((tenorlaw6_awake.f).bind fun t708 => (some t708)) else (some false))) else (some false)) else (some false))) = some r := H
        have A36 := Aside0.mk A360
        clear A360
        replace H := Option.bind_eq_some_iff.mp H
        obtain ⟨⟨t705, t706⟩, A370, H⟩ := H
        replace H : (if t702 = t704 then (if t704 = t706 then (if t701 = true then (if (t705 == t703) = true then ((tenorlaw6_awake.f).bind fun t707 => (some t707)) else (some false)) else (if (t705 == false) = true then ((tenorlaw6_awake.f).bind fun t708 => (some t708)) else (some false))) else (some false)) else (some false)) = some r := H
        have A37 := Aside0.mk A370
        clear A370
        by_cases c38 : t702 = t704
        · rw [if_pos c38] at H
          have c38b0 : (t702 == t704) = true := beq_iff_eq.mpr c38
          have c38b1 : (t702 != t704) = false := bne_eq_false_iff_eq.mpr c38
          clear c38
          by_cases c39 : t704 = t706
          · rw [if_pos c39] at H
            have c39b0 : (t704 == t706) = true := beq_iff_eq.mpr c39
            have c39b1 : (t704 != t706) = false := bne_eq_false_iff_eq.mpr c39
            clear c39
            by_cases c40 : t701 = true
            · subst c40
              have H1 : (if (t705 == t703) = true then ((tenorlaw6_awake.f).bind fun t707 => (some t707)) else (some false)) = some r := by rw [if_pos rfl] at H; exact H
              clear H
              have H := H1
              clear H1
              by_cases c41 : (t705 == t703) = true
              · rw [if_pos c41] at H
                have c41b0 : (t705 == t703) = true := c41
                (try (have c41b1 : decide (t705 = t703) = true := by simpa using c41))
                (try (have c41b2 : (t705 == t703) = true := by simpa using c41))
                clear c41
                replace H := Option.bind_eq_some_iff.mp H
                obtain ⟨t707, A420, H⟩ := H
                replace H : (some t707) = some r := H
                have A42 := Aside0.mk A420
                clear A420
                obtain rfl := Option.some.inj H
                have hnb43 := NB692_693.out
                have hnc43 := NB693_692.out
                have hnb44 := NB692_699.out
                have hnc44 := NB699_692.out
                have hcz45_0 : wc.cell? ⟨gb692, 0, none⟩ = some (.int .i64 a0_0) := (blk_cell BK692.out 0).trans rfl
                have hcz45_1 : wc.cell? ⟨gb692, 1, none⟩ = some (.slice A0_1 l0_1.length c0_1) := (blk_cell BK692.out 1).trans rfl
                have hfz45_0 := blk_frozen BK692.out 0
                have hfz45_1 := blk_frozen BK692.out 1
                go_wp2_with (first | ((with_reducible refine gate_callee (f := 33) rfl ?_); refine goesL_ (some 39) rfl rfl Try.func33 (by kernel_rfl) rfl #[.agg #[.int .i64 a0_0, .slice A0_1 l0_1.length c0_1], .int .i64 a2] rfl (by (try simp only [List.map_toArray, List.map_cons, List.map_nil]); first | done | rfl | (simp only [List.length_drop, List.length_take]; rfl)) ?_; (with_reducible refine (cal_Open.calls a0_0 _ _ l0_1 a2 true t702 _ ?side1 ?side2 A35.out).mono ?_); (case side1 => repeat (first | exact (Kd.C_below HR0_1.out HB.out) | (with_reducible refine Kd.C_alloc ?_ _) | (with_reducible refine Kd.C_drewN ?_ _) | (with_reducible refine Kd.C_drew ?_))); (case side2 => exact HC0_1.out); rintro e w46 ⟨rfl, hb⟩; refine ⟨_, rfl, ?_⟩; have n0_ := Aside0.mk (Kd.R_below (by (with_reducible repeat (first | apply Kd.R_alloc | apply Kd.R_drewN | apply Kd.R_drew)); exact HO_700001.out) hb); have n1_ := Aside0.mk (blk_below (g := gb692) (o := .cells #[.int .i64 a0_0, .slice A0_1 l0_1.length c0_1] 24 (0, 0)) (by (with_reducible repeat (first | refine blk_drewN ?_ _ | refine blk_drew ?_ | refine blk_alloc ?_ _)); exact BK692.out) hb); have n2_ := Aside0.mk (blk_below (g := gb693) (o := .cells #[.int .i64 a1_0, .slice A1_1 l1_1.length c1_1] 24 (0, 0)) (by (with_reducible repeat (first | refine blk_drewN ?_ _ | refine blk_drew ?_ | refine blk_alloc ?_ _)); exact BK693.out) hb); have n3_ := Aside0.mk (blk_below (g := gb699) (o := .cells #[.int .i64 t694, .slice Ao16 t695.length co16] 24 (0, 0)) (by (with_reducible repeat (first | refine blk_drewN ?_ _ | refine blk_drew ?_ | refine blk_alloc ?_ _)); exact BK699.out) hb); have n4_ := Aside0.mk (below_step (by repeat (first | (with_reducible first | exact HB.out | apply below_alloc | apply pw_below_drewN | apply below_drew1 | refine below_set ?_ GE692.out | refine below_set ?_ GE693.out | refine below_set ?_ GE699.out) | exact HB.out)) hb); clear HO_700001; clear BK692; clear BK693; clear BK699; clear HB; have HO_700001 := n0_; have BK692 := n1_; have BK693 := n2_; have BK699 := n3_; have HB := n4_; clear n0_ n1_ n2_ n3_ n4_; (try clear hb); (try clear hb2); (try clear hk); (try clear hi); have hnb47 := NB693_699.out; have hnc47 := NB699_693.out; have hcz48_0 : w46.cell? ⟨gb693, 0, none⟩ = some (.int .i64 a1_0) := (blk_cell BK693.out 0).trans rfl; have hcz48_1 : w46.cell? ⟨gb693, 1, none⟩ = some (.slice A1_1 l1_1.length c1_1) := (blk_cell BK693.out 1).trans rfl; have hfz48_0 := blk_frozen BK693.out 0; have hfz48_1 := blk_frozen BK693.out 1) | ((with_reducible refine gate_callee (f := 33) rfl ?_); refine goesL_ (some 45) rfl rfl Try.func33 (by kernel_rfl) rfl #[.agg #[.int .i64 a1_0, .slice A1_1 l1_1.length c1_1], .int .i64 a2] rfl (by (try simp only [List.map_toArray, List.map_cons, List.map_nil]); first | done | rfl | (simp only [List.length_drop, List.length_take]; rfl)) ?_; (with_reducible refine (cal_Open.calls a1_0 _ _ l1_1 a2 t703 t704 _ ?side1 ?side2 A36.out).mono ?_); (case side1 => repeat (first | exact (Kd.C_below HR1_1.out HB.out) | (with_reducible refine Kd.C_alloc ?_ _) | (with_reducible refine Kd.C_drewN ?_ _) | (with_reducible refine Kd.C_drew ?_))); (case side2 => exact HC1_1.out); rintro e w49 ⟨rfl, hb⟩; refine ⟨_, rfl, ?_⟩; have n0_ := Aside0.mk (Kd.R_below (by (with_reducible repeat (first | apply Kd.R_alloc | apply Kd.R_drewN | apply Kd.R_drew)); exact HO_700001.out) hb); have n1_ := Aside0.mk (blk_below (g := gb692) (o := .cells #[.int .i64 a0_0, .slice A0_1 l0_1.length c0_1] 24 (0, 0)) (by (with_reducible repeat (first | refine blk_drewN ?_ _ | refine blk_drew ?_ | refine blk_alloc ?_ _)); exact BK692.out) hb); have n2_ := Aside0.mk (blk_below (g := gb693) (o := .cells #[.int .i64 a1_0, .slice A1_1 l1_1.length c1_1] 24 (0, 0)) (by (with_reducible repeat (first | refine blk_drewN ?_ _ | refine blk_drew ?_ | refine blk_alloc ?_ _)); exact BK693.out) hb); have n3_ := Aside0.mk (blk_below (g := gb699) (o := .cells #[.int .i64 t694, .slice Ao16 t695.length co16] 24 (0, 0)) (by (with_reducible repeat (first | refine blk_drewN ?_ _ | refine blk_drew ?_ | refine blk_alloc ?_ _)); exact BK699.out) hb); have n4_ := Aside0.mk (below_step (by repeat (first | (with_reducible first | exact HB.out | apply below_alloc | apply pw_below_drewN | apply below_drew1 | refine below_set ?_ GE692.out | refine below_set ?_ GE693.out | refine below_set ?_ GE699.out) | exact HB.out)) hb); clear HO_700001; clear BK692; clear BK693; clear BK699; clear HB; have HO_700001 := n0_; have BK692 := n1_; have BK693 := n2_; have BK699 := n3_; have HB := n4_; clear n0_ n1_ n2_ n3_ n4_; (try clear hb); (try clear hb2); (try clear hk); (try clear hi); have hcz50_0 : w49.cell? ⟨gb699, 0, none⟩ = some (.int .i64 t694) := (blk_cell BK699.out 0).trans rfl; have hcz50_1 : w49.cell? ⟨gb699, 1, none⟩ = some (.slice Ao16 t695.length co16) := (blk_cell BK699.out 1).trans rfl; have hfz50_0 := blk_frozen BK699.out 0; have hfz50_1 := blk_frozen BK699.out 1) | ((with_reducible refine gate_callee (f := 33) rfl ?_); refine goesL_ (some 51) rfl rfl Try.func33 (by kernel_rfl) rfl #[.agg #[.int .i64 t694, .slice Ao16 t695.length co16], .int .i64 a2] rfl (by (try simp only [List.map_toArray, List.map_cons, List.map_nil]); first | done | rfl | (simp only [List.length_drop, List.length_take]; rfl)) ?_; (with_reducible refine (cal_Open.calls t694 _ _ t695 a2 t705 t706 _ ?side1 ?side2 A37.out).mono ?_); (case side1 => repeat (first | exact (Kd.R_reads' HO_700001.out).2.2 | (with_reducible refine Kd.C_alloc ?_ _) | (with_reducible refine Kd.C_drewN ?_ _) | (with_reducible refine Kd.C_drew ?_))); (case side2 => exact (Kd.R_reads' HO_700001.out).2.1); rintro e w51 ⟨rfl, hb⟩; refine ⟨_, rfl, ?_⟩; have n0_ := Aside0.mk (Kd.R_below (by (with_reducible repeat (first | apply Kd.R_alloc | apply Kd.R_drewN | apply Kd.R_drew)); exact HO_700001.out) hb); have n1_ := Aside0.mk (blk_below (g := gb692) (o := .cells #[.int .i64 a0_0, .slice A0_1 l0_1.length c0_1] 24 (0, 0)) (by (with_reducible repeat (first | refine blk_drewN ?_ _ | refine blk_drew ?_ | refine blk_alloc ?_ _)); exact BK692.out) hb); have n2_ := Aside0.mk (blk_below (g := gb693) (o := .cells #[.int .i64 a1_0, .slice A1_1 l1_1.length c1_1] 24 (0, 0)) (by (with_reducible repeat (first | refine blk_drewN ?_ _ | refine blk_drew ?_ | refine blk_alloc ?_ _)); exact BK693.out) hb); have n3_ := Aside0.mk (blk_below (g := gb699) (o := .cells #[.int .i64 t694, .slice Ao16 t695.length co16] 24 (0, 0)) (by (with_reducible repeat (first | refine blk_drewN ?_ _ | refine blk_drew ?_ | refine blk_alloc ?_ _)); exact BK699.out) hb); have n4_ := Aside0.mk (below_step (by repeat (first | (with_reducible first | exact HB.out | apply below_alloc | apply pw_below_drewN | apply below_drew1 | refine below_set ?_ GE692.out | refine below_set ?_ GE693.out | refine below_set ?_ GE699.out) | exact HB.out)) hb); clear HO_700001; clear BK692; clear BK693; clear BK699; clear HB; have HO_700001 := n0_; have BK692 := n1_; have BK693 := n2_; have BK699 := n3_; have HB := n4_; clear n0_ n1_ n2_ n3_ n4_; (try clear hb); (try clear hb2); (try clear hk); (try clear hi)) | (go_at_call 32; (with_reducible refine (tenorlaw6_awake.calls  t707 _ A42.out).mono ?_); rintro e w52 ⟨rfl, hb⟩; have n0_ := Aside0.mk (Kd.R_below (by (with_reducible repeat (first | apply Kd.R_alloc | apply Kd.R_drewN | apply Kd.R_drew)); exact HO_700001.out) hb); have n1_ := Aside0.mk (blk_below (g := gb692) (o := .cells #[.int .i64 a0_0, .slice A0_1 l0_1.length c0_1] 24 (0, 0)) (by (with_reducible repeat (first | refine blk_drewN ?_ _ | refine blk_drew ?_ | refine blk_alloc ?_ _)); exact BK692.out) hb); have n2_ := Aside0.mk (blk_below (g := gb693) (o := .cells #[.int .i64 a1_0, .slice A1_1 l1_1.length c1_1] 24 (0, 0)) (by (with_reducible repeat (first | refine blk_drewN ?_ _ | refine blk_drew ?_ | refine blk_alloc ?_ _)); exact BK693.out) hb); have n3_ := Aside0.mk (blk_below (g := gb699) (o := .cells #[.int .i64 t694, .slice Ao16 t695.length co16] 24 (0, 0)) (by (with_reducible repeat (first | refine blk_drewN ?_ _ | refine blk_drew ?_ | refine blk_alloc ?_ _)); exact BK699.out) hb); have n4_ := Aside0.mk (below_step (by repeat (first | (with_reducible first | exact HB.out | apply below_alloc | apply pw_below_drewN | apply below_drew1 | refine below_set ?_ GE692.out | refine below_set ?_ GE693.out | refine below_set ?_ GE699.out) | exact HB.out)) hb); clear HO_700001; clear BK692; clear BK693; clear BK699; clear HB; have HO_700001 := n0_; have BK692 := n1_; have BK693 := n2_; have BK699 := n3_; have HB := n4_; clear n0_ n1_ n2_ n3_ n4_; (try clear hb); (try clear hb2); (try clear hk); (try clear hi)))
                go_ret
                exact ⟨by first | rfl | (simp [errW_none, errW_some] <;> rfl) | (simp [*, errW_none, errW_some] <;> rfl), by repeat (first | (with_reducible first | exact HB.out | apply below_alloc | apply pw_below_drewN | apply below_drew1 | refine below_set ?_ GE692.out | refine below_set ?_ GE693.out | refine below_set ?_ GE699.out) | exact HB.out)⟩
              · rw [if_neg c41] at H
                have c41b0 : (t705 == t703) = false := by simpa using c41
                (try (have c41b1 : decide (t705 = t703) = false := by simpa using c41))
                (try (have c41b2 : (t705 == t703) = false := by simpa using c41))
                (try (have c41b3 : ¬ (t705 = t703) := by simpa using c41))
                clear c41
                exact absurd (H.trans (congrArg some HT)) (by decide)
            · replace c40 := Bool.eq_false_iff.mpr c40
              subst c40
              have H1 : (if (t705 == false) = true then ((tenorlaw6_awake.f).bind fun t708 => (some t708)) else (some false)) = some r := by rw [if_neg (show ¬ (false = true) by decide)] at H; exact H
              clear H
              have H := H1
              clear H1
              by_cases c62 : (t705 == false) = true
              · rw [if_pos c62] at H
                have c62b0 : (t705 == false) = true := c62
                (try (have c62b1 : decide (t705 = false) = true := by simpa using c62))
                (try (have c62b2 : (t705 == false) = true := by simpa using c62))
                clear c62
                replace H := Option.bind_eq_some_iff.mp H
                obtain ⟨t708, A630, H⟩ := H
                replace H : (some t708) = some r := H
                have A63 := Aside0.mk A630
                clear A630
                obtain rfl := Option.some.inj H
                have hnb64 := NB692_693.out
                have hnc64 := NB693_692.out
                have hnb65 := NB692_699.out
                have hnc65 := NB699_692.out
                have hcz66_0 : wc.cell? ⟨gb692, 0, none⟩ = some (.int .i64 a0_0) := (blk_cell BK692.out 0).trans rfl
                have hcz66_1 : wc.cell? ⟨gb692, 1, none⟩ = some (.slice A0_1 l0_1.length c0_1) := (blk_cell BK692.out 1).trans rfl
                have hfz66_0 := blk_frozen BK692.out 0
                have hfz66_1 := blk_frozen BK692.out 1
                go_wp2_with (first | ((with_reducible refine gate_callee (f := 33) rfl ?_); refine goesL_ (some 39) rfl rfl Try.func33 (by kernel_rfl) rfl #[.agg #[.int .i64 a0_0, .slice A0_1 l0_1.length c0_1], .int .i64 a2] rfl (by (try simp only [List.map_toArray, List.map_cons, List.map_nil]); first | done | rfl | (simp only [List.length_drop, List.length_take]; rfl)) ?_; (with_reducible refine (cal_Open.calls a0_0 _ _ l0_1 a2 false t702 _ ?side1 ?side2 A35.out).mono ?_); (case side1 => repeat (first | exact (Kd.C_below HR0_1.out HB.out) | (with_reducible refine Kd.C_alloc ?_ _) | (with_reducible refine Kd.C_drewN ?_ _) | (with_reducible refine Kd.C_drew ?_))); (case side2 => exact HC0_1.out); rintro e w67 ⟨rfl, hb⟩; refine ⟨_, rfl, ?_⟩; have n0_ := Aside0.mk (Kd.R_below (by (with_reducible repeat (first | apply Kd.R_alloc | apply Kd.R_drewN | apply Kd.R_drew)); exact HO_700001.out) hb); have n1_ := Aside0.mk (blk_below (g := gb692) (o := .cells #[.int .i64 a0_0, .slice A0_1 l0_1.length c0_1] 24 (0, 0)) (by (with_reducible repeat (first | refine blk_drewN ?_ _ | refine blk_drew ?_ | refine blk_alloc ?_ _)); exact BK692.out) hb); have n2_ := Aside0.mk (blk_below (g := gb693) (o := .cells #[.int .i64 a1_0, .slice A1_1 l1_1.length c1_1] 24 (0, 0)) (by (with_reducible repeat (first | refine blk_drewN ?_ _ | refine blk_drew ?_ | refine blk_alloc ?_ _)); exact BK693.out) hb); have n3_ := Aside0.mk (blk_below (g := gb699) (o := .cells #[.int .i64 t694, .slice Ao16 t695.length co16] 24 (0, 0)) (by (with_reducible repeat (first | refine blk_drewN ?_ _ | refine blk_drew ?_ | refine blk_alloc ?_ _)); exact BK699.out) hb); have n4_ := Aside0.mk (below_step (by repeat (first | (with_reducible first | exact HB.out | apply below_alloc | apply pw_below_drewN | apply below_drew1 | refine below_set ?_ GE692.out | refine below_set ?_ GE693.out | refine below_set ?_ GE699.out) | exact HB.out)) hb); clear HO_700001; clear BK692; clear BK693; clear BK699; clear HB; have HO_700001 := n0_; have BK692 := n1_; have BK693 := n2_; have BK699 := n3_; have HB := n4_; clear n0_ n1_ n2_ n3_ n4_; (try clear hb); (try clear hb2); (try clear hk); (try clear hi); have hnb68 := NB693_699.out; have hnc68 := NB699_693.out; have hcz69_0 : w67.cell? ⟨gb693, 0, none⟩ = some (.int .i64 a1_0) := (blk_cell BK693.out 0).trans rfl; have hcz69_1 : w67.cell? ⟨gb693, 1, none⟩ = some (.slice A1_1 l1_1.length c1_1) := (blk_cell BK693.out 1).trans rfl; have hfz69_0 := blk_frozen BK693.out 0; have hfz69_1 := blk_frozen BK693.out 1) | ((with_reducible refine gate_callee (f := 33) rfl ?_); refine goesL_ (some 45) rfl rfl Try.func33 (by kernel_rfl) rfl #[.agg #[.int .i64 a1_0, .slice A1_1 l1_1.length c1_1], .int .i64 a2] rfl (by (try simp only [List.map_toArray, List.map_cons, List.map_nil]); first | done | rfl | (simp only [List.length_drop, List.length_take]; rfl)) ?_; (with_reducible refine (cal_Open.calls a1_0 _ _ l1_1 a2 t703 t704 _ ?side1 ?side2 A36.out).mono ?_); (case side1 => repeat (first | exact (Kd.C_below HR1_1.out HB.out) | (with_reducible refine Kd.C_alloc ?_ _) | (with_reducible refine Kd.C_drewN ?_ _) | (with_reducible refine Kd.C_drew ?_))); (case side2 => exact HC1_1.out); rintro e w70 ⟨rfl, hb⟩; refine ⟨_, rfl, ?_⟩; have n0_ := Aside0.mk (Kd.R_below (by (with_reducible repeat (first | apply Kd.R_alloc | apply Kd.R_drewN | apply Kd.R_drew)); exact HO_700001.out) hb); have n1_ := Aside0.mk (blk_below (g := gb692) (o := .cells #[.int .i64 a0_0, .slice A0_1 l0_1.length c0_1] 24 (0, 0)) (by (with_reducible repeat (first | refine blk_drewN ?_ _ | refine blk_drew ?_ | refine blk_alloc ?_ _)); exact BK692.out) hb); have n2_ := Aside0.mk (blk_below (g := gb693) (o := .cells #[.int .i64 a1_0, .slice A1_1 l1_1.length c1_1] 24 (0, 0)) (by (with_reducible repeat (first | refine blk_drewN ?_ _ | refine blk_drew ?_ | refine blk_alloc ?_ _)); exact BK693.out) hb); have n3_ := Aside0.mk (blk_below (g := gb699) (o := .cells #[.int .i64 t694, .slice Ao16 t695.length co16] 24 (0, 0)) (by (with_reducible repeat (first | refine blk_drewN ?_ _ | refine blk_drew ?_ | refine blk_alloc ?_ _)); exact BK699.out) hb); have n4_ := Aside0.mk (below_step (by repeat (first | (with_reducible first | exact HB.out | apply below_alloc | apply pw_below_drewN | apply below_drew1 | refine below_set ?_ GE692.out | refine below_set ?_ GE693.out | refine below_set ?_ GE699.out) | exact HB.out)) hb); clear HO_700001; clear BK692; clear BK693; clear BK699; clear HB; have HO_700001 := n0_; have BK692 := n1_; have BK693 := n2_; have BK699 := n3_; have HB := n4_; clear n0_ n1_ n2_ n3_ n4_; (try clear hb); (try clear hb2); (try clear hk); (try clear hi); have hcz71_0 : w70.cell? ⟨gb699, 0, none⟩ = some (.int .i64 t694) := (blk_cell BK699.out 0).trans rfl; have hcz71_1 : w70.cell? ⟨gb699, 1, none⟩ = some (.slice Ao16 t695.length co16) := (blk_cell BK699.out 1).trans rfl; have hfz71_0 := blk_frozen BK699.out 0; have hfz71_1 := blk_frozen BK699.out 1) | ((with_reducible refine gate_callee (f := 33) rfl ?_); refine goesL_ (some 51) rfl rfl Try.func33 (by kernel_rfl) rfl #[.agg #[.int .i64 t694, .slice Ao16 t695.length co16], .int .i64 a2] rfl (by (try simp only [List.map_toArray, List.map_cons, List.map_nil]); first | done | rfl | (simp only [List.length_drop, List.length_take]; rfl)) ?_; (with_reducible refine (cal_Open.calls t694 _ _ t695 a2 t705 t706 _ ?side1 ?side2 A37.out).mono ?_); (case side1 => repeat (first | exact (Kd.R_reads' HO_700001.out).2.2 | (with_reducible refine Kd.C_alloc ?_ _) | (with_reducible refine Kd.C_drewN ?_ _) | (with_reducible refine Kd.C_drew ?_))); (case side2 => exact (Kd.R_reads' HO_700001.out).2.1); rintro e w72 ⟨rfl, hb⟩; refine ⟨_, rfl, ?_⟩; have n0_ := Aside0.mk (Kd.R_below (by (with_reducible repeat (first | apply Kd.R_alloc | apply Kd.R_drewN | apply Kd.R_drew)); exact HO_700001.out) hb); have n1_ := Aside0.mk (blk_below (g := gb692) (o := .cells #[.int .i64 a0_0, .slice A0_1 l0_1.length c0_1] 24 (0, 0)) (by (with_reducible repeat (first | refine blk_drewN ?_ _ | refine blk_drew ?_ | refine blk_alloc ?_ _)); exact BK692.out) hb); have n2_ := Aside0.mk (blk_below (g := gb693) (o := .cells #[.int .i64 a1_0, .slice A1_1 l1_1.length c1_1] 24 (0, 0)) (by (with_reducible repeat (first | refine blk_drewN ?_ _ | refine blk_drew ?_ | refine blk_alloc ?_ _)); exact BK693.out) hb); have n3_ := Aside0.mk (blk_below (g := gb699) (o := .cells #[.int .i64 t694, .slice Ao16 t695.length co16] 24 (0, 0)) (by (with_reducible repeat (first | refine blk_drewN ?_ _ | refine blk_drew ?_ | refine blk_alloc ?_ _)); exact BK699.out) hb); have n4_ := Aside0.mk (below_step (by repeat (first | (with_reducible first | exact HB.out | apply below_alloc | apply pw_below_drewN | apply below_drew1 | refine below_set ?_ GE692.out | refine below_set ?_ GE693.out | refine below_set ?_ GE699.out) | exact HB.out)) hb); clear HO_700001; clear BK692; clear BK693; clear BK699; clear HB; have HO_700001 := n0_; have BK692 := n1_; have BK693 := n2_; have BK699 := n3_; have HB := n4_; clear n0_ n1_ n2_ n3_ n4_; (try clear hb); (try clear hb2); (try clear hk); (try clear hi)) | (go_at_call 32; (with_reducible refine (tenorlaw6_awake.calls  t708 _ A63.out).mono ?_); rintro e w73 ⟨rfl, hb⟩; have n0_ := Aside0.mk (Kd.R_below (by (with_reducible repeat (first | apply Kd.R_alloc | apply Kd.R_drewN | apply Kd.R_drew)); exact HO_700001.out) hb); have n1_ := Aside0.mk (blk_below (g := gb692) (o := .cells #[.int .i64 a0_0, .slice A0_1 l0_1.length c0_1] 24 (0, 0)) (by (with_reducible repeat (first | refine blk_drewN ?_ _ | refine blk_drew ?_ | refine blk_alloc ?_ _)); exact BK692.out) hb); have n2_ := Aside0.mk (blk_below (g := gb693) (o := .cells #[.int .i64 a1_0, .slice A1_1 l1_1.length c1_1] 24 (0, 0)) (by (with_reducible repeat (first | refine blk_drewN ?_ _ | refine blk_drew ?_ | refine blk_alloc ?_ _)); exact BK693.out) hb); have n3_ := Aside0.mk (blk_below (g := gb699) (o := .cells #[.int .i64 t694, .slice Ao16 t695.length co16] 24 (0, 0)) (by (with_reducible repeat (first | refine blk_drewN ?_ _ | refine blk_drew ?_ | refine blk_alloc ?_ _)); exact BK699.out) hb); have n4_ := Aside0.mk (below_step (by repeat (first | (with_reducible first | exact HB.out | apply below_alloc | apply pw_below_drewN | apply below_drew1 | refine below_set ?_ GE692.out | refine below_set ?_ GE693.out | refine below_set ?_ GE699.out) | exact HB.out)) hb); clear HO_700001; clear BK692; clear BK693; clear BK699; clear HB; have HO_700001 := n0_; have BK692 := n1_; have BK693 := n2_; have BK699 := n3_; have HB := n4_; clear n0_ n1_ n2_ n3_ n4_; (try clear hb); (try clear hb2); (try clear hk); (try clear hi)))
                go_ret
                exact ⟨by first | rfl | (simp [errW_none, errW_some] <;> rfl) | (simp [*, errW_none, errW_some] <;> rfl), by repeat (first | (with_reducible first | exact HB.out | apply below_alloc | apply pw_below_drewN | apply below_drew1 | refine below_set ?_ GE692.out | refine below_set ?_ GE693.out | refine below_set ?_ GE699.out) | exact HB.out)⟩
              · rw [if_neg c62] at H
                have c62b0 : (t705 == false) = false := by simpa using c62
                (try (have c62b1 : decide (t705 = false) = false := by simpa using c62))
                (try (have c62b2 : (t705 == false) = false := by simpa using c62))
                (try (have c62b3 : ¬ (t705 = false) := by simpa using c62))
                clear c62
                exact absurd (H.trans (congrArg some HT)) (by decide)
          · rw [if_neg c39] at H
            have c39b0 : (t704 == t706) = false := beq_eq_false_iff_ne.mpr c39
            have c39b1 : (t704 != t706) = true := bne_iff_ne.mpr c39
            exact absurd (H.trans (congrArg some HT)) (by decide)
        · rw [if_neg c38] at H
          have c38b0 : (t702 == t704) = false := beq_eq_false_iff_ne.mpr c38
          have c38b1 : (t702 != t704) = true := bne_iff_ne.mpr c38
          exact absurd (H.trans (congrArg some HT)) (by decide)

/-! ### sched_is: function 90 -/
def sched_is.f (a0 : Int) : Option (Bool) := if a0 ≥ 0 then (some (decide (a0 ≤ 109572))) else (some false)
set_option maxHeartbeats 8000000 in
set_option maxRecDepth 100000 in
theorem sched_is.calls (a0 : Int) (r : Bool) (w : World) (h : sched_is.f a0 = some r) :
    Calls Try.prog 90 #[.int .i64 a0] w fun e w' => e = .returned (.bool r) ∧ Drawn0 w w' := by
  have H : (if a0 ≥ 0 then (some (decide (a0 ≤ 109572))) else (some false)) = some r := h
  clear h
  by_cases c2 : a0 ≥ 0
  · rw [if_pos c2] at H
    have c2b0 : decide (0 ≤ a0) = true := decide_eq_true c2
    clear c2
    obtain rfl := Option.some.inj H
    go_enter Try.func90, Try.ntmps90
    go_wp2
    go_ret
    exact ⟨by first | rfl | (simp; done) | (simp [*]; done), by repeat (first | exact Drawn0.refl _ | apply Drawn0.step)⟩
  · rw [if_neg c2] at H
    have c2b0 : decide (0 ≤ a0) = false := decide_eq_false c2
    clear c2
    obtain rfl := Option.some.inj H
    go_enter Try.func90, Try.ntmps90
    go_wp2
    go_ret
    exact ⟨by first | rfl | (simp; done) | (simp [*]; done), by repeat (first | exact Drawn0.refl _ | apply Drawn0.step)⟩

end Go.Proofs.Ytoncignjcgjhhaa.Q
