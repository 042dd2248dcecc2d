/- Contracts and facts of functions of the program (calendar, dates and their documents), joined in one text by a program of this session. No condition but what each theorem states. -/
import Derived.Test.YtoncignjcgjhhaaZGA
import Derived.Test.YtoncignjcgjhhaaZGG
import Derived.Test.YtoncignjcgjhhaaZGI
set_option linter.unusedVariables false
set_option linter.unusedSimpArgs false
namespace Go.Proofs.Ytoncignjcgjhhaa.Q
open Go.RowKit Go.Proofs.YtoncignjcgjhhaaW.PrintWords Go.Proofs.YtoncignjcgjhhaaW.PrintLast Go.Proofs.YtoncignjcgjhhaaW.PrintMore
attribute [local go_sem] max2_int min2_int max_two min_two max_three min_three max_four min_four   -- for this text's walks alone
set_option linter.unusedVariables false
set_option linter.unusedSimpArgs false

/-! ### tenorref6_holiday: function 76 -/
mutual
def tenorref6_holiday.l0 : Nat → Int → Int → Int → List (S63) → Int → Int → Int → Option (Bool)
  | 0, _, _, _, _, _, _, _ => none
  | k + 1, x1, x7, x220000, x220001, x225000, x225001, x225002 => if x7 < (x220001.length : Int) then (if 0 ≤ x7 then (if ((rd_T63 x220001 x7).f0) = 4 then (if ((rd_T63 x220001 x7).f2) = x1 then (some true) else (tenorref6_holiday.l0 k x1 (wrap64 (x7 + 1)) x220000 x220001 x225000 x225001 x225002)) else (tenorref6_holiday.l1 k x1 x7 (wrap64 (x225000 - 1)) x220000 x220001 x225000 x225001 x225002 ((rd_T63 x220001 x7).f0) ((rd_T63 x220001 x7).f1) ((rd_T63 x220001 x7).f2) ((rd_T63 x220001 x7).f3) ((rd_T63 x220001 x7).f4) ((rd_T63 x220001 x7).f5) ((rd_T63 x220001 x7).f6) ((rd_T63 x220001 x7).f7) ((rd_T63 x220001 x7).f8))) else (none)) else (some false)
def tenorref6_holiday.l1 : Nat → Int → Int → Int → Int → List (S63) → Int → Int → Int → Int → Int → Int → Int → Int → Int → Int → Int → Int → Option (Bool)
  | 0, _, _, _, _, _, _, _, _, _, _, _, _, _, _, _, _, _ => none
  | k + 1, x1, x7, x9, x220000, x220001, x225000, x225001, x225002, x227000, x227001, x227002, x227003, x227004, x227005, x227006, x227007, x227008 => if x9 ≤ (wrap64 (x225000 + 1)) then ((tenorref6_day.f k x220000 x220001 x227000 x227001 x227002 x227003 x227004 x227005 x227006 x227007 x227008 x9).bind fun bt227 => (if bt227.2 = true then (if bt227.1 = x1 then (some true) else (tenorref6_holiday.l1 k x1 x7 (wrap64 (x9 + 1)) x220000 x220001 x225000 x225001 x225002 x227000 x227001 x227002 x227003 x227004 x227005 x227006 x227007 x227008)) else (tenorref6_holiday.l1 k x1 x7 (wrap64 (x9 + 1)) x220000 x220001 x225000 x225001 x225002 x227000 x227001 x227002 x227003 x227004 x227005 x227006 x227007 x227008))) else (tenorref6_holiday.l0 k x1 (wrap64 (x7 + 1)) x220000 x220001 x225000 x225001 x225002)
end
def tenorref6_holiday.f (k : Nat) (a0_0 : Int) (l0_1 : List (S63)) (a1 : Int) : Option (Bool) := (tenorref5_Civil.f k a1).bind fun bt220 => (tenorref6_holiday.l0 k a1 0 a0_0 l0_1 bt220.1 bt220.2.1 bt220.2.2.1)
theorem tenorref6_holiday.mono_l : ∀ k, (∀ y0 y1 y2 y3 y4 y5 y6, LeO (tenorref6_holiday.l0 k y0 y1 y2 y3 y4 y5 y6) (tenorref6_holiday.l0 (k + 1) y0 y1 y2 y3 y4 y5 y6)) ∧ (∀ y0 y1 y2 y3 y4 y5 y6 y7 y8 y9 y10 y11 y12 y13 y14 y15 y16, LeO (tenorref6_holiday.l1 k y0 y1 y2 y3 y4 y5 y6 y7 y8 y9 y10 y11 y12 y13 y14 y15 y16) (tenorref6_holiday.l1 (k + 1) y0 y1 y2 y3 y4 y5 y6 y7 y8 y9 y10 y11 y12 y13 y14 y15 y16))
  | 0 => ⟨fun _ _ _ _ _ _ _ r h => by simp [tenorref6_holiday.l0] at h, fun _ _ _ _ _ _ _ _ _ _ _ _ _ _ _ _ _ r h => by simp [tenorref6_holiday.l1] at h⟩
  | k + 1 => by
    obtain ⟨ih0, ih1⟩ := tenorref6_holiday.mono_l k
    refine ⟨?_, ?_⟩
    · intro y0 y1 y2 y3 y4 y5 y6
      unfold tenorref6_holiday.l0
      repeat' first
      | (with_reducible exact ih0 _ _ _ _ _ _ _)
      | (with_reducible exact ih1 _ _ _ _ _ _ _ _ _ _ _ _ _ _ _ _ _)
      | (with_reducible exact tenorref5_Civil.mono _ _)
      | (with_reducible exact tenorref6_day.mono _ _ _ _ _ _ _ _ _ _ _ _ _)
      | (with_reducible exact LeO.refl _)
      | (with_reducible exact LeO.none _)
      | (with_reducible refine LeO.ite ?_ ?_)
      | (with_reducible refine LeO.bind ?_ (fun _ => ?_))
      | exact ih0 _ _ _ _ _ _ _
      | exact ih1 _ _ _ _ _ _ _ _ _ _ _ _ _ _ _ _ _
      | exact tenorref5_Civil.mono _ _
      | exact tenorref6_day.mono _ _ _ _ _ _ _ _ _ _ _ _ _
      | exact LeO.none _
      | refine LeO.ite ?_ ?_
      | refine LeO.bind ?_ (fun _ => ?_)
    · intro y0 y1 y2 y3 y4 y5 y6 y7 y8 y9 y10 y11 y12 y13 y14 y15 y16
      unfold tenorref6_holiday.l1
      repeat' first
      | (with_reducible exact ih0 _ _ _ _ _ _ _)
      | (with_reducible exact ih1 _ _ _ _ _ _ _ _ _ _ _ _ _ _ _ _ _)
      | (with_reducible exact tenorref5_Civil.mono _ _)
      | (with_reducible exact tenorref6_day.mono _ _ _ _ _ _ _ _ _ _ _ _ _)
      | (with_reducible exact LeO.refl _)
      | (with_reducible exact LeO.none _)
      | (with_reducible refine LeO.ite ?_ ?_)
      | (with_reducible refine LeO.bind ?_ (fun _ => ?_))
      | exact ih0 _ _ _ _ _ _ _
      | exact ih1 _ _ _ _ _ _ _ _ _ _ _ _ _ _ _ _ _
      | exact tenorref5_Civil.mono _ _
      | exact tenorref6_day.mono _ _ _ _ _ _ _ _ _ _ _ _ _
      | exact LeO.none _
      | refine LeO.ite ?_ ?_
      | refine LeO.bind ?_ (fun _ => ?_)
theorem tenorref6_holiday.mono : ∀ a0 a1 a2 k, LeO (tenorref6_holiday.f k a0 a1 a2) (tenorref6_holiday.f (k + 1) a0 a1 a2) := by
  intro a0 a1 a2 k
  obtain ⟨ih0, ih1⟩ := tenorref6_holiday.mono_l k
  unfold tenorref6_holiday.f
  repeat' first
      | (with_reducible exact ih0 _ _ _ _ _ _ _)
      | (with_reducible exact ih1 _ _ _ _ _ _ _ _ _ _ _ _ _ _ _ _ _)
      | (with_reducible exact tenorref5_Civil.mono _ _)
      | (with_reducible exact tenorref6_day.mono _ _ _ _ _ _ _ _ _ _ _ _ _)
      | (with_reducible exact LeO.refl _)
      | (with_reducible exact LeO.none _)
      | (with_reducible refine LeO.ite ?_ ?_)
      | (with_reducible refine LeO.bind ?_ (fun _ => ?_))
      | exact ih0 _ _ _ _ _ _ _
      | exact ih1 _ _ _ _ _ _ _ _ _ _ _ _ _ _ _ _ _
      | exact tenorref5_Civil.mono _ _
      | exact tenorref6_day.mono _ _ _ _ _ _ _ _ _ _ _ _ _
      | exact LeO.none _
      | refine LeO.ite ?_ ?_
      | refine LeO.bind ?_ (fun _ => ?_)
set_option maxHeartbeats 8000000 in
set_option maxRecDepth 100000 in
theorem tenorref6_holiday.calls (k : Nat) (a0_0 : Int) (A0_1 : Option Addr) (c0_1 : Nat) (l0_1 : List (S63)) (a1 : Int) (r : Bool) (w : World) (hr0_1 : Kd.C k63 w A0_1 l0_1.length l0_1) (hc0_1 : l0_1.length ≤ c0_1) (h : tenorref6_holiday.f k a0_0 l0_1 a1 = some r) :
    Calls Try.prog 76 #[.agg #[.int .i64 a0_0, .slice A0_1 l0_1.length c0_1], .int .i64 a1] w fun e w' => e = .returned (.bool r) ∧ Below w.heap.size w w' := by
  have hu24 := Try.underlying24
  have hu115 := Try.underlying115
  have hu63 := Try.underlying63
  have HR0_1 := Aside0.mk hr0_1
  have HC0_1 := Aside0.mk hc0_1
  clear hr0_1 hc0_1
  have HB := Aside0.mk (Below.refl w.heap.size w)
  have H : ((tenorref5_Civil.f k a1).bind fun bt220 => (tenorref6_holiday.l0 k a1 0 a0_0 l0_1 bt220.1 bt220.2.1 bt220.2.2.1)) = some r := h
  clear h
  replace H := Option.bind_eq_some_iff.mp H
  obtain ⟨⟨t220, t221, t222, t223⟩, A30, H⟩ := H
  replace H : (tenorref6_holiday.l0 k a1 0 a0_0 l0_1 t220 t221 t222) = some r := H
  have A3 := Aside0.mk A30
  clear A30
  have H' := Aside0.mk H
  clear H
  go_enter Try.func76, Try.ntmps76
  go_wp2_with (first | ((with_reducible refine gate_dst (N := 2) rfl ?_); refine box_event ?hg (N := 2) ?hd (cs := #[.int .i64 a0_0, .slice A0_1 l0_1.length c0_1]) (t := 24) ?hr ?_; (case hd => rfl); (case hg => rfl); (case hr => first | (go_simp; done) | (go_simp; rfl)); intro gb219 hg w4 hbox hb; have n0_ := Aside0.mk (below_step (by repeat (first | (with_reducible first | exact HB.out | apply below_alloc | apply pw_below_drewN | apply below_drew1) | exact HB.out)) hb); have n1_ := Aside0.mk (hbox); have n2_ := Aside0.mk ((by rw [hg]; exact (below_size (by repeat (first | (with_reducible first | exact HB.out | apply below_alloc | apply pw_below_drewN | apply below_drew1) | exact HB.out))) : w.heap.size ≤ gb219)); have n3_ := Aside0.mk ((by rw [hg]; exact (below_size (by repeat (first | (with_reducible first | exact HB.out | apply below_alloc | apply pw_below_drewN | apply below_drew1) | exact HB.out))) : w.heap.size ≤ gb219)); clear HB; have HB := n0_; have BK219 := n1_; have GW219 := n2_; have GE219 := n3_; clear n0_ n1_ n2_ n3_; clear hb hbox hg) | ((with_reducible refine gate_callee (f := 96) rfl ?_); refine goesL_ (some 14) rfl rfl Try.func96 (by kernel_rfl) rfl #[.int .i64 a1] rfl (by (try simp only [List.map_toArray, List.map_cons, List.map_nil]); first | done | rfl | (simp only [List.length_drop, List.length_take]; rfl)) ?_; (with_reducible refine (tenorref5_Civil.calls k a1 t220 t221 t222 t223 _ A3.out).mono ?_); rintro e w5 ⟨rfl, hb⟩; refine ⟨_, rfl, ?_⟩; have n0_ := Aside0.mk (blk_below (g := gb219) (o := .cells #[.int .i64 a0_0, .slice A0_1 l0_1.length c0_1] 24 (0, 0)) (by (with_reducible repeat (first | refine blk_drewN ?_ _ | refine blk_drew ?_ | refine blk_alloc ?_ _)); exact BK219.out) hb); have n1_ := Aside0.mk (below_step (by repeat (first | (with_reducible first | exact HB.out | apply below_alloc | apply pw_below_drewN | apply below_drew1 | refine below_set ?_ GE219.out) | exact HB.out)) hb); clear BK219; clear HB; have BK219 := n0_; have HB := n1_; clear n0_ n1_; (try clear hb); (try clear hb2); (try clear hk); (try clear hi)) | ((with_reducible refine gate_dst (N := 5) rfl ?_); refine box_event ?hg (N := 5) ?hd (cs := #[.int .i64 0, .int .i64 0, .int .i64 0]) (t := 115) ?hr ?_; (case hd => rfl); (case hg => rfl); (case hr => first | (go_simp; done) | (go_simp; rfl)); intro gb224 hg w6 hbox hb; have n0_ := Aside0.mk (blk_below (g := gb219) (o := .cells #[.int .i64 a0_0, .slice A0_1 l0_1.length c0_1] 24 (0, 0)) (by (with_reducible repeat (first | refine blk_drewN ?_ _ | refine blk_drew ?_ | refine blk_alloc ?_ _)); exact BK219.out) hb); have n1_ := Aside0.mk (below_step (by repeat (first | (with_reducible first | exact HB.out | apply below_alloc | apply pw_below_drewN | apply below_drew1 | refine below_set ?_ GE219.out) | exact HB.out)) hb); have n2_ := Aside0.mk (hbox); have n3_ := Aside0.mk ((by rw [hg]; exact (below_size (by repeat (first | (with_reducible first | exact HB.out | apply below_alloc | apply pw_below_drewN | apply below_drew1 | refine below_set ?_ GE219.out) | exact HB.out))) : w.heap.size ≤ gb224)); have n4_ := Aside0.mk ((by rw [hg]; exact (below_size (by repeat (first | (with_reducible first | exact HB.out | apply below_alloc | apply pw_below_drewN | apply below_drew1 | refine below_set ?_ GE219.out) | exact HB.out))) : w.heap.size ≤ gb224)); have n5_ := Aside0.mk ((by rw [hg]; exact Nat.ne_of_lt (blk_lt (g := gb219) (o := .cells #[.int .i64 a0_0, .slice A0_1 l0_1.length c0_1] 24 (0, 0)) (by (with_reducible repeat (first | refine blk_drewN ?_ _ | refine blk_drew ?_ | refine blk_alloc ?_ _)); exact BK219.out)) : gb219 ≠ gb224)); have n6_ := Aside0.mk ((by rw [hg]; exact Nat.ne_of_gt (blk_lt (g := gb219) (o := .cells #[.int .i64 a0_0, .slice A0_1 l0_1.length c0_1] 24 (0, 0)) (by (with_reducible repeat (first | refine blk_drewN ?_ _ | refine blk_drew ?_ | refine blk_alloc ?_ _)); exact BK219.out)) : gb224 ≠ gb219)); clear BK219; clear HB; have BK219 := n0_; have HB := n1_; have BK224 := n2_; have GW224 := n3_; have GE224 := n4_; have NB219_224 := n5_; have NB224_219 := n6_; clear n0_ n1_ n2_ n3_ n4_ n5_ n6_; clear hb hbox hg; have hnb7 := NB224_219.out; have hnc7 := NB219_224.out; have hcz8_0 : w6.cell? ⟨gb224, 0, none⟩ = some (.int .i64 0) := (blk_cell BK224.out 0).trans rfl; have hcz8_1 : w6.cell? ⟨gb224, 1, none⟩ = some (.int .i64 0) := (blk_cell BK224.out 1).trans rfl; have hcz8_2 : w6.cell? ⟨gb224, 2, none⟩ = some (.int .i64 0) := (blk_cell BK224.out 2).trans rfl; have hfz8_0 := blk_frozen BK224.out 0; have hfz8_1 := blk_frozen BK224.out 1; have hfz8_2 := blk_frozen BK224.out 2))
  go_loopg [7] k (fun kq v7 w' => ∃ (x7_1 : Int), v7 = .int .i64 x7_1 ∧ Aside0 (tenorref6_holiday.l0 kq a1 x7_1 a0_0 l0_1 t220 t221 t222 = some r) ∧ Aside0 (kq ≤ k) ∧ Aside0 (w'.heap[gb219]? = some (.cells #[.int .i64 a0_0, (.slice A0_1 l0_1.length c0_1)] 24 (0, 0))) ∧ Aside0 (w'.heap[gb224]? = some (.cells #[.int .i64 t220, .int .i64 t221, .int .i64 t222] 115 (0, 0))) ∧ Aside0 (Below w.heap.size w w'))
  case atStart => exact ⟨(0), (by first | rfl | (simp; done) | (simp [*]; done)), H', ⟨Nat.le_refl _⟩, ⟨by (with_reducible repeat (first | refine blk_drewN ?_ _ | refine blk_drew ?_ | refine blk_alloc ?_ _)); refine blk_far ?_ NB219_224.out _; (with_reducible repeat (first | refine blk_drewN ?_ _ | refine blk_drew ?_ | refine blk_alloc ?_ _)); refine blk_far ?_ NB219_224.out _; (with_reducible repeat (first | refine blk_drewN ?_ _ | refine blk_drew ?_ | refine blk_alloc ?_ _)); refine blk_far ?_ NB219_224.out _; (with_reducible repeat (first | refine blk_drewN ?_ _ | refine blk_drew ?_ | refine blk_alloc ?_ _)); exact BK219.out⟩, ⟨by (with_reducible repeat (first | refine blk_drewN ?_ _ | refine blk_drew ?_ | refine blk_alloc ?_ _)); refine blk_put (cs := #[.int .i64 t220, .int .i64 t221, .int .i64 0]) ?_ 2 _ rfl; (with_reducible repeat (first | refine blk_drewN ?_ _ | refine blk_drew ?_ | refine blk_alloc ?_ _)); refine blk_put (cs := #[.int .i64 t220, .int .i64 0, .int .i64 0]) ?_ 1 _ rfl; (with_reducible repeat (first | refine blk_drewN ?_ _ | refine blk_drew ?_ | refine blk_alloc ?_ _)); refine blk_put (cs := #[.int .i64 0, .int .i64 0, .int .i64 0]) ?_ 0 _ rfl; (with_reducible repeat (first | refine blk_drewN ?_ _ | refine blk_drew ?_ | refine blk_alloc ?_ _)); exact BK224.out⟩, ⟨by repeat (first | (with_reducible first | exact HB.out | apply below_alloc | apply pw_below_drewN | apply below_drew1 | refine below_set ?_ GE219.out | refine below_set ?_ GE224.out) | exact HB.out)⟩⟩
  case round =>
    clear H'
    try clear p2
    try clear c7
    try clear hcz8_0
    try clear hcz8_1
    try clear hcz8_2
    try clear hfz8_0
    try clear hfz8_1
    try clear hfz8_2
    obtain ⟨x7_1, rfl, HA, HK1, BK219, BK224, HB⟩ := hrel
    cases gk with
    | zero => exact absurd HA.out (by simp [tenorref6_holiday.l0])
    | succ k1 =>
      have H := HA.out
      clear HA
      simp only [tenorref6_holiday.l0] at H
      by_cases c9 : x7_1 < (l0_1.length : Int)
      · rw [if_pos c9] at H
        have c9b0 : decide (x7_1 < (l0_1.length : Int)) = true := decide_eq_true c9
        clear c9
        by_cases c10 : 0 ≤ x7_1
        · rw [if_pos c10] at H
          have c10b0 : decide (0 ≤ x7_1) = true := decide_eq_true c10
          clear c10
          by_cases c11 : ((rd_T63 l0_1 x7_1).f0) = 4
          · rw [if_pos c11] at H
            have c11b0 : (((rd_T63 l0_1 x7_1).f0) == 4) = true := beq_iff_eq.mpr c11
            have c11b1 : (((rd_T63 l0_1 x7_1).f0) != 4) = false := bne_eq_false_iff_eq.mpr c11
            clear c11
            by_cases c12 : ((rd_T63 l0_1 x7_1).f2) = a1
            · rw [if_pos c12] at H
              have c12b0 : (((rd_T63 l0_1 x7_1).f2) == a1) = true := beq_iff_eq.mpr c12
              have c12b1 : (((rd_T63 l0_1 x7_1).f2) != a1) = false := bne_eq_false_iff_eq.mpr c12
              clear c12
              obtain rfl := Option.some.inj H
              have hnb13 := NB219_224.out
              have hnc13 := NB224_219.out
              have hcz14_0 : wr.cell? ⟨gb219, 0, none⟩ = some (.int .i64 a0_0) := (blk_cell BK219.out 0).trans rfl
              have hcz14_1 : wr.cell? ⟨gb219, 1, none⟩ = some (.slice A0_1 l0_1.length c0_1) := (blk_cell BK219.out 1).trans rfl
              have hfz14_0 := blk_frozen BK219.out 0
              have hfz14_1 := blk_frozen BK219.out 1
              have p225 : 0 ≤ (x7_1 : Int) := of_decide_eq_true (by first | (with_reducible assumption) | assumption)
              have q225 : x7_1 < (l0_1.length : Int) := of_decide_eq_true (by first | (with_reducible assumption) | assumption)
              obtain ⟨ad225, e225, hx225_0, hx225_1, hx225_2, hx225_3, hx225_4, hx225_5, hx225_6, hx225_7, hx225_8⟩ := at_T63 HR0_1.out x7_1 p225 q225
              cases e225
              replace hx225_0 := (HB.out.cell (World.block_lt_of_cell? w _ hx225_0)).trans hx225_0
              replace hx225_1 := (HB.out.cell (World.block_lt_of_cell? w _ hx225_1)).trans hx225_1
              replace hx225_2 := (HB.out.cell (World.block_lt_of_cell? w _ hx225_2)).trans hx225_2
              replace hx225_3 := (HB.out.cell (World.block_lt_of_cell? w _ hx225_3)).trans hx225_3
              replace hx225_4 := (HB.out.cell (World.block_lt_of_cell? w _ hx225_4)).trans hx225_4
              replace hx225_5 := (HB.out.cell (World.block_lt_of_cell? w _ hx225_5)).trans hx225_5
              replace hx225_6 := (HB.out.cell (World.block_lt_of_cell? w _ hx225_6)).trans hx225_6
              replace hx225_7 := (HB.out.cell (World.block_lt_of_cell? w _ hx225_7)).trans hx225_7
              replace hx225_8 := (HB.out.cell (World.block_lt_of_cell? w _ hx225_8)).trans hx225_8
              replace p225 := eq_true p225
              replace q225 := eq_true q225
              go_wp2_with (first | ((with_reducible refine gate_dst (N := 8) rfl ?_); refine box_event ?hg (N := 8) ?hd (cs := #[.int .i64 0, .int .i64 0, .int .i64 0, .int .i64 0, .int .i64 0, .int .i64 0, .int .i64 0, .int .i64 0, .int .i64 0]) (t := 63) ?hr ?_; (case hd => rfl); (case hg => rfl); (case hr => first | (go_simp; done) | (go_simp; rfl)); intro gb226 hg w15 hbox hb; have n0_ := Aside0.mk (blk_below (g := gb219) (o := .cells #[.int .i64 a0_0, .slice (some ad225) l0_1.length c0_1] 24 (0, 0)) (by (with_reducible repeat (first | refine blk_drewN ?_ _ | refine blk_drew ?_ | refine blk_alloc ?_ _)); exact BK219.out) hb); have n1_ := Aside0.mk (blk_below (g := gb224) (o := .cells #[.int .i64 t220, .int .i64 t221, .int .i64 t222] 115 (0, 0)) (by (with_reducible repeat (first | refine blk_drewN ?_ _ | refine blk_drew ?_ | refine blk_alloc ?_ _)); exact BK224.out) hb); have n2_ := Aside0.mk (below_step (by repeat (first | (with_reducible first | exact HB.out | apply below_alloc | apply pw_below_drewN | apply below_drew1 | refine below_set ?_ GE219.out | refine below_set ?_ GE224.out) | exact HB.out)) hb); have n3_ := Aside0.mk (hbox); have n4_ := Aside0.mk ((by rw [hg]; exact (below_size (by repeat (first | (with_reducible first | exact HB.out | apply below_alloc | apply pw_below_drewN | apply below_drew1 | refine below_set ?_ GE219.out | refine below_set ?_ GE224.out) | exact HB.out))) : w.heap.size ≤ gb226)); have n5_ := Aside0.mk ((by rw [hg]; exact (below_size (by repeat (first | (with_reducible first | exact HB.out | apply below_alloc | apply pw_below_drewN | apply below_drew1 | refine below_set ?_ GE219.out | refine below_set ?_ GE224.out) | exact HB.out))) : w.heap.size ≤ gb226)); have n6_ := Aside0.mk ((by rw [hg]; exact Nat.ne_of_lt (blk_lt (g := gb219) (o := .cells #[.int .i64 a0_0, .slice (some ad225) l0_1.length c0_1] 24 (0, 0)) (by (with_reducible repeat (first | refine blk_drewN ?_ _ | refine blk_drew ?_ | refine blk_alloc ?_ _)); exact BK219.out)) : gb219 ≠ gb226)); have n7_ := Aside0.mk ((by rw [hg]; exact Nat.ne_of_gt (blk_lt (g := gb219) (o := .cells #[.int .i64 a0_0, .slice (some ad225) l0_1.length c0_1] 24 (0, 0)) (by (with_reducible repeat (first | refine blk_drewN ?_ _ | refine blk_drew ?_ | refine blk_alloc ?_ _)); exact BK219.out)) : gb226 ≠ gb219)); have n8_ := Aside0.mk ((by rw [hg]; exact Nat.ne_of_lt (blk_lt (g := gb224) (o := .cells #[.int .i64 t220, .int .i64 t221, .int .i64 t222] 115 (0, 0)) (by (with_reducible repeat (first | refine blk_drewN ?_ _ | refine blk_drew ?_ | refine blk_alloc ?_ _)); exact BK224.out)) : gb224 ≠ gb226)); have n9_ := Aside0.mk ((by rw [hg]; exact Nat.ne_of_gt (blk_lt (g := gb224) (o := .cells #[.int .i64 t220, .int .i64 t221, .int .i64 t222] 115 (0, 0)) (by (with_reducible repeat (first | refine blk_drewN ?_ _ | refine blk_drew ?_ | refine blk_alloc ?_ _)); exact BK224.out)) : gb226 ≠ gb224)); clear BK219; clear BK224; clear HB; have BK219 := n0_; have BK224 := n1_; have HB := n2_; have BK226 := n3_; have GW226 := n4_; have GE226 := n5_; have NB219_226 := n6_; have NB226_219 := n7_; have NB224_226 := n8_; have NB226_224 := n9_; clear n0_ n1_ n2_ n3_ n4_ n5_ n6_ n7_ n8_ n9_; clear hb hbox hg; have hnb16 := NB226_219.out; have hnc16 := NB219_226.out; have hnb17 := NB226_224.out; have hnc17 := NB224_226.out; have hcz18_0 : w15.cell? ⟨gb226, 0, none⟩ = some (.int .i64 0) := (blk_cell BK226.out 0).trans rfl; have hcz18_1 : w15.cell? ⟨gb226, 1, none⟩ = some (.int .i64 0) := (blk_cell BK226.out 1).trans rfl; have hcz18_2 : w15.cell? ⟨gb226, 2, none⟩ = some (.int .i64 0) := (blk_cell BK226.out 2).trans rfl; have hcz18_3 : w15.cell? ⟨gb226, 3, none⟩ = some (.int .i64 0) := (blk_cell BK226.out 3).trans rfl; have hcz18_4 : w15.cell? ⟨gb226, 4, none⟩ = some (.int .i64 0) := (blk_cell BK226.out 4).trans rfl; have hcz18_5 : w15.cell? ⟨gb226, 5, none⟩ = some (.int .i64 0) := (blk_cell BK226.out 5).trans rfl; have hcz18_6 : w15.cell? ⟨gb226, 6, none⟩ = some (.int .i64 0) := (blk_cell BK226.out 6).trans rfl; have hcz18_7 : w15.cell? ⟨gb226, 7, none⟩ = some (.int .i64 0) := (blk_cell BK226.out 7).trans rfl; have hcz18_8 : w15.cell? ⟨gb226, 8, none⟩ = some (.int .i64 0) := (blk_cell BK226.out 8).trans rfl; have hfz18_0 := blk_frozen BK226.out 0; have hfz18_1 := blk_frozen BK226.out 1; have hfz18_2 := blk_frozen BK226.out 2; have hfz18_3 := blk_frozen BK226.out 3; have hfz18_4 := blk_frozen BK226.out 4; have hfz18_5 := blk_frozen BK226.out 5; have hfz18_6 := blk_frozen BK226.out 6; have hfz18_7 := blk_frozen BK226.out 7; have hfz18_8 := blk_frozen BK226.out 8))
              go_ret
              exact ⟨by first | rfl | (simp [errW_none, errW_some] <;> rfl) | (simp [*, errW_none, errW_some] <;> rfl), by repeat (first | (with_reducible first | exact HB.out | apply below_alloc | apply pw_below_drewN | apply below_drew1 | refine below_set ?_ GE219.out | refine below_set ?_ GE224.out | refine below_set ?_ GE226.out) | exact HB.out)⟩
            · rw [if_neg c12] at H
              have c12b0 : (((rd_T63 l0_1 x7_1).f2) == a1) = false := beq_eq_false_iff_ne.mpr c12
              have c12b1 : (((rd_T63 l0_1 x7_1).f2) != a1) = true := bne_iff_ne.mpr c12
              have H' := Aside0.mk H
              clear H
              have hnb19 := NB219_224.out
              have hnc19 := NB224_219.out
              have hcz20_0 : wr.cell? ⟨gb219, 0, none⟩ = some (.int .i64 a0_0) := (blk_cell BK219.out 0).trans rfl
              have hcz20_1 : wr.cell? ⟨gb219, 1, none⟩ = some (.slice A0_1 l0_1.length c0_1) := (blk_cell BK219.out 1).trans rfl
              have hfz20_0 := blk_frozen BK219.out 0
              have hfz20_1 := blk_frozen BK219.out 1
              have p225 : 0 ≤ (x7_1 : Int) := of_decide_eq_true (by first | (with_reducible assumption) | assumption)
              have q225 : x7_1 < (l0_1.length : Int) := of_decide_eq_true (by first | (with_reducible assumption) | assumption)
              obtain ⟨ad225, e225, hx225_0, hx225_1, hx225_2, hx225_3, hx225_4, hx225_5, hx225_6, hx225_7, hx225_8⟩ := at_T63 HR0_1.out x7_1 p225 q225
              cases e225
              replace hx225_0 := (HB.out.cell (World.block_lt_of_cell? w _ hx225_0)).trans hx225_0
              replace hx225_1 := (HB.out.cell (World.block_lt_of_cell? w _ hx225_1)).trans hx225_1
              replace hx225_2 := (HB.out.cell (World.block_lt_of_cell? w _ hx225_2)).trans hx225_2
              replace hx225_3 := (HB.out.cell (World.block_lt_of_cell? w _ hx225_3)).trans hx225_3
              replace hx225_4 := (HB.out.cell (World.block_lt_of_cell? w _ hx225_4)).trans hx225_4
              replace hx225_5 := (HB.out.cell (World.block_lt_of_cell? w _ hx225_5)).trans hx225_5
              replace hx225_6 := (HB.out.cell (World.block_lt_of_cell? w _ hx225_6)).trans hx225_6
              replace hx225_7 := (HB.out.cell (World.block_lt_of_cell? w _ hx225_7)).trans hx225_7
              replace hx225_8 := (HB.out.cell (World.block_lt_of_cell? w _ hx225_8)).trans hx225_8
              replace p225 := eq_true p225
              replace q225 := eq_true q225
              go_wp2_with (first | ((with_reducible refine gate_dst (N := 8) rfl ?_); refine box_event ?hg (N := 8) ?hd (cs := #[.int .i64 0, .int .i64 0, .int .i64 0, .int .i64 0, .int .i64 0, .int .i64 0, .int .i64 0, .int .i64 0, .int .i64 0]) (t := 63) ?hr ?_; (case hd => rfl); (case hg => rfl); (case hr => first | (go_simp; done) | (go_simp; rfl)); intro gb226 hg w21 hbox hb; have n0_ := Aside0.mk (blk_below (g := gb219) (o := .cells #[.int .i64 a0_0, .slice (some ad225) l0_1.length c0_1] 24 (0, 0)) (by (with_reducible repeat (first | refine blk_drewN ?_ _ | refine blk_drew ?_ | refine blk_alloc ?_ _)); exact BK219.out) hb); have n1_ := Aside0.mk (blk_below (g := gb224) (o := .cells #[.int .i64 t220, .int .i64 t221, .int .i64 t222] 115 (0, 0)) (by (with_reducible repeat (first | refine blk_drewN ?_ _ | refine blk_drew ?_ | refine blk_alloc ?_ _)); exact BK224.out) hb); have n2_ := Aside0.mk (below_step (by repeat (first | (with_reducible first | exact HB.out | apply below_alloc | apply pw_below_drewN | apply below_drew1 | refine below_set ?_ GE219.out | refine below_set ?_ GE224.out) | exact HB.out)) hb); have n3_ := Aside0.mk (hbox); have n4_ := Aside0.mk ((by rw [hg]; exact (below_size (by repeat (first | (with_reducible first | exact HB.out | apply below_alloc | apply pw_below_drewN | apply below_drew1 | refine below_set ?_ GE219.out | refine below_set ?_ GE224.out) | exact HB.out))) : w.heap.size ≤ gb226)); have n5_ := Aside0.mk ((by rw [hg]; exact (below_size (by repeat (first | (with_reducible first | exact HB.out | apply below_alloc | apply pw_below_drewN | apply below_drew1 | refine below_set ?_ GE219.out | refine below_set ?_ GE224.out) | exact HB.out))) : w.heap.size ≤ gb226)); have n6_ := Aside0.mk ((by rw [hg]; exact Nat.ne_of_lt (blk_lt (g := gb219) (o := .cells #[.int .i64 a0_0, .slice (some ad225) l0_1.length c0_1] 24 (0, 0)) (by (with_reducible repeat (first | refine blk_drewN ?_ _ | refine blk_drew ?_ | refine blk_alloc ?_ _)); exact BK219.out)) : gb219 ≠ gb226)); have n7_ := Aside0.mk ((by rw [hg]; exact Nat.ne_of_gt (blk_lt (g := gb219) (o := .cells #[.int .i64 a0_0, .slice (some ad225) l0_1.length c0_1] 24 (0, 0)) (by (with_reducible repeat (first | refine blk_drewN ?_ _ | refine blk_drew ?_ | refine blk_alloc ?_ _)); exact BK219.out)) : gb226 ≠ gb219)); have n8_ := Aside0.mk ((by rw [hg]; exact Nat.ne_of_lt (blk_lt (g := gb224) (o := .cells #[.int .i64 t220, .int .i64 t221, .int .i64 t222] 115 (0, 0)) (by (with_reducible repeat (first | refine blk_drewN ?_ _ | refine blk_drew ?_ | refine blk_alloc ?_ _)); exact BK224.out)) : gb224 ≠ gb226)); have n9_ := Aside0.mk ((by rw [hg]; exact Nat.ne_of_gt (blk_lt (g := gb224) (o := .cells #[.int .i64 t220, .int .i64 t221, .int .i64 t222] 115 (0, 0)) (by (with_reducible repeat (first | refine blk_drewN ?_ _ | refine blk_drew ?_ | refine blk_alloc ?_ _)); exact BK224.out)) : gb226 ≠ gb224)); clear BK219; clear BK224; clear HB; have BK219 := n0_; have BK224 := n1_; have HB := n2_; have BK226 := n3_; have GW226 := n4_; have GE226 := n5_; have NB219_226 := n6_; have NB226_219 := n7_; have NB224_226 := n8_; have NB226_224 := n9_; clear n0_ n1_ n2_ n3_ n4_ n5_ n6_ n7_ n8_ n9_; clear hb hbox hg; have hnb22 := NB226_219.out; have hnc22 := NB219_226.out; have hnb23 := NB226_224.out; have hnc23 := NB224_226.out; have hcz24_0 : w21.cell? ⟨gb226, 0, none⟩ = some (.int .i64 0) := (blk_cell BK226.out 0).trans rfl; have hcz24_1 : w21.cell? ⟨gb226, 1, none⟩ = some (.int .i64 0) := (blk_cell BK226.out 1).trans rfl; have hcz24_2 : w21.cell? ⟨gb226, 2, none⟩ = some (.int .i64 0) := (blk_cell BK226.out 2).trans rfl; have hcz24_3 : w21.cell? ⟨gb226, 3, none⟩ = some (.int .i64 0) := (blk_cell BK226.out 3).trans rfl; have hcz24_4 : w21.cell? ⟨gb226, 4, none⟩ = some (.int .i64 0) := (blk_cell BK226.out 4).trans rfl; have hcz24_5 : w21.cell? ⟨gb226, 5, none⟩ = some (.int .i64 0) := (blk_cell BK226.out 5).trans rfl; have hcz24_6 : w21.cell? ⟨gb226, 6, none⟩ = some (.int .i64 0) := (blk_cell BK226.out 6).trans rfl; have hcz24_7 : w21.cell? ⟨gb226, 7, none⟩ = some (.int .i64 0) := (blk_cell BK226.out 7).trans rfl; have hcz24_8 : w21.cell? ⟨gb226, 8, none⟩ = some (.int .i64 0) := (blk_cell BK226.out 8).trans rfl; have hfz24_0 := blk_frozen BK226.out 0; have hfz24_1 := blk_frozen BK226.out 1; have hfz24_2 := blk_frozen BK226.out 2; have hfz24_3 := blk_frozen BK226.out 3; have hfz24_4 := blk_frozen BK226.out 4; have hfz24_5 := blk_frozen BK226.out 5; have hfz24_6 := blk_frozen BK226.out 6; have hfz24_7 := blk_frozen BK226.out 7; have hfz24_8 := blk_frozen BK226.out 8))
              go_roundg k1
              case measure => have := HK1.out; omega
              case rel => exact ⟨(wrap64 (x7_1 + 1)), (by first | rfl | (simp; done) | (simp [*]; done)), H', ⟨by have := HK1.out; omega⟩, ⟨by (with_reducible repeat (first | refine blk_drewN ?_ _ | refine blk_drew ?_ | refine blk_alloc ?_ _)); refine blk_far ?_ NB219_226.out _; (with_reducible repeat (first | refine blk_drewN ?_ _ | refine blk_drew ?_ | refine blk_alloc ?_ _)); refine blk_far ?_ NB219_226.out _; (with_reducible repeat (first | refine blk_drewN ?_ _ | refine blk_drew ?_ | refine blk_alloc ?_ _)); refine blk_far ?_ NB219_226.out _; (with_reducible repeat (first | refine blk_drewN ?_ _ | refine blk_drew ?_ | refine blk_alloc ?_ _)); refine blk_far ?_ NB219_226.out _; (with_reducible repeat (first | refine blk_drewN ?_ _ | refine blk_drew ?_ | refine blk_alloc ?_ _)); refine blk_far ?_ NB219_226.out _; (with_reducible repeat (first | refine blk_drewN ?_ _ | refine blk_drew ?_ | refine blk_alloc ?_ _)); refine blk_far ?_ NB219_226.out _; (with_reducible repeat (first | refine blk_drewN ?_ _ | refine blk_drew ?_ | refine blk_alloc ?_ _)); refine blk_far ?_ NB219_226.out _; (with_reducible repeat (first | refine blk_drewN ?_ _ | refine blk_drew ?_ | refine blk_alloc ?_ _)); refine blk_far ?_ NB219_226.out _; (with_reducible repeat (first | refine blk_drewN ?_ _ | refine blk_drew ?_ | refine blk_alloc ?_ _)); refine blk_far ?_ NB219_226.out _; (with_reducible repeat (first | refine blk_drewN ?_ _ | refine blk_drew ?_ | refine blk_alloc ?_ _)); exact BK219.out⟩, ⟨by (with_reducible repeat (first | refine blk_drewN ?_ _ | refine blk_drew ?_ | refine blk_alloc ?_ _)); refine blk_far ?_ NB224_226.out _; (with_reducible repeat (first | refine blk_drewN ?_ _ | refine blk_drew ?_ | refine blk_alloc ?_ _)); refine blk_far ?_ NB224_226.out _; (with_reducible repeat (first | refine blk_drewN ?_ _ | refine blk_drew ?_ | refine blk_alloc ?_ _)); refine blk_far ?_ NB224_226.out _; (with_reducible repeat (first | refine blk_drewN ?_ _ | refine blk_drew ?_ | refine blk_alloc ?_ _)); refine blk_far ?_ NB224_226.out _; (with_reducible repeat (first | refine blk_drewN ?_ _ | refine blk_drew ?_ | refine blk_alloc ?_ _)); refine blk_far ?_ NB224_226.out _; (with_reducible repeat (first | refine blk_drewN ?_ _ | refine blk_drew ?_ | refine blk_alloc ?_ _)); refine blk_far ?_ NB224_226.out _; (with_reducible repeat (first | refine blk_drewN ?_ _ | refine blk_drew ?_ | refine blk_alloc ?_ _)); refine blk_far ?_ NB224_226.out _; (with_reducible repeat (first | refine blk_drewN ?_ _ | refine blk_drew ?_ | refine blk_alloc ?_ _)); refine blk_far ?_ NB224_226.out _; (with_reducible repeat (first | refine blk_drewN ?_ _ | refine blk_drew ?_ | refine blk_alloc ?_ _)); refine blk_far ?_ NB224_226.out _; (with_reducible repeat (first | refine blk_drewN ?_ _ | refine blk_drew ?_ | refine blk_alloc ?_ _)); exact BK224.out⟩, ⟨by repeat (first | (with_reducible first | exact HB.out | apply below_alloc | apply pw_below_drewN | apply below_drew1 | refine below_set ?_ GE219.out | refine below_set ?_ GE224.out | refine below_set ?_ GE226.out) | exact HB.out)⟩⟩
          · rw [if_neg c11] at H
            have c11b0 : (((rd_T63 l0_1 x7_1).f0) == 4) = false := beq_eq_false_iff_ne.mpr c11
            have c11b1 : (((rd_T63 l0_1 x7_1).f0) != 4) = true := bne_iff_ne.mpr c11
            have H' := Aside0.mk H
            clear H
            have hnb25 := NB219_224.out
            have hnc25 := NB224_219.out
            have hcz26_0 : wr.cell? ⟨gb219, 0, none⟩ = some (.int .i64 a0_0) := (blk_cell BK219.out 0).trans rfl
            have hcz26_1 : wr.cell? ⟨gb219, 1, none⟩ = some (.slice A0_1 l0_1.length c0_1) := (blk_cell BK219.out 1).trans rfl
            have hfz26_0 := blk_frozen BK219.out 0
            have hfz26_1 := blk_frozen BK219.out 1
            have p225 : 0 ≤ (x7_1 : Int) := of_decide_eq_true (by first | (with_reducible assumption) | assumption)
            have q225 : x7_1 < (l0_1.length : Int) := of_decide_eq_true (by first | (with_reducible assumption) | assumption)
            obtain ⟨ad225, e225, hx225_0, hx225_1, hx225_2, hx225_3, hx225_4, hx225_5, hx225_6, hx225_7, hx225_8⟩ := at_T63 HR0_1.out x7_1 p225 q225
            cases e225
            replace hx225_0 := (HB.out.cell (World.block_lt_of_cell? w _ hx225_0)).trans hx225_0
            replace hx225_1 := (HB.out.cell (World.block_lt_of_cell? w _ hx225_1)).trans hx225_1
            replace hx225_2 := (HB.out.cell (World.block_lt_of_cell? w _ hx225_2)).trans hx225_2
            replace hx225_3 := (HB.out.cell (World.block_lt_of_cell? w _ hx225_3)).trans hx225_3
            replace hx225_4 := (HB.out.cell (World.block_lt_of_cell? w _ hx225_4)).trans hx225_4
            replace hx225_5 := (HB.out.cell (World.block_lt_of_cell? w _ hx225_5)).trans hx225_5
            replace hx225_6 := (HB.out.cell (World.block_lt_of_cell? w _ hx225_6)).trans hx225_6
            replace hx225_7 := (HB.out.cell (World.block_lt_of_cell? w _ hx225_7)).trans hx225_7
            replace hx225_8 := (HB.out.cell (World.block_lt_of_cell? w _ hx225_8)).trans hx225_8
            replace p225 := eq_true p225
            replace q225 := eq_true q225
            go_wp2_with (first | ((with_reducible refine gate_dst (N := 8) rfl ?_); refine box_event ?hg (N := 8) ?hd (cs := #[.int .i64 0, .int .i64 0, .int .i64 0, .int .i64 0, .int .i64 0, .int .i64 0, .int .i64 0, .int .i64 0, .int .i64 0]) (t := 63) ?hr ?_; (case hd => rfl); (case hg => rfl); (case hr => first | (go_simp; done) | (go_simp; rfl)); intro gb226 hg w27 hbox hb; have n0_ := Aside0.mk (blk_below (g := gb219) (o := .cells #[.int .i64 a0_0, .slice (some ad225) l0_1.length c0_1] 24 (0, 0)) (by (with_reducible repeat (first | refine blk_drewN ?_ _ | refine blk_drew ?_ | refine blk_alloc ?_ _)); exact BK219.out) hb); have n1_ := Aside0.mk (blk_below (g := gb224) (o := .cells #[.int .i64 t220, .int .i64 t221, .int .i64 t222] 115 (0, 0)) (by (with_reducible repeat (first | refine blk_drewN ?_ _ | refine blk_drew ?_ | refine blk_alloc ?_ _)); exact BK224.out) hb); have n2_ := Aside0.mk (below_step (by repeat (first | (with_reducible first | exact HB.out | apply below_alloc | apply pw_below_drewN | apply below_drew1 | refine below_set ?_ GE219.out | refine below_set ?_ GE224.out) | exact HB.out)) hb); have n3_ := Aside0.mk (hbox); have n4_ := Aside0.mk ((by rw [hg]; exact (below_size (by repeat (first | (with_reducible first | exact HB.out | apply below_alloc | apply pw_below_drewN | apply below_drew1 | refine below_set ?_ GE219.out | refine below_set ?_ GE224.out) | exact HB.out))) : w.heap.size ≤ gb226)); have n5_ := Aside0.mk ((by rw [hg]; exact (below_size (by repeat (first | (with_reducible first | exact HB.out | apply below_alloc | apply pw_below_drewN | apply below_drew1 | refine below_set ?_ GE219.out | refine below_set ?_ GE224.out) | exact HB.out))) : w.heap.size ≤ gb226)); have n6_ := Aside0.mk ((by rw [hg]; exact Nat.ne_of_lt (blk_lt (g := gb219) (o := .cells #[.int .i64 a0_0, .slice (some ad225) l0_1.length c0_1] 24 (0, 0)) (by (with_reducible repeat (first | refine blk_drewN ?_ _ | refine blk_drew ?_ | refine blk_alloc ?_ _)); exact BK219.out)) : gb219 ≠ gb226)); have n7_ := Aside0.mk ((by rw [hg]; exact Nat.ne_of_gt (blk_lt (g := gb219) (o := .cells #[.int .i64 a0_0, .slice (some ad225) l0_1.length c0_1] 24 (0, 0)) (by (with_reducible repeat (first | refine blk_drewN ?_ _ | refine blk_drew ?_ | refine blk_alloc ?_ _)); exact BK219.out)) : gb226 ≠ gb219)); have n8_ := Aside0.mk ((by rw [hg]; exact Nat.ne_of_lt (blk_lt (g := gb224) (o := .cells #[.int .i64 t220, .int .i64 t221, .int .i64 t222] 115 (0, 0)) (by (with_reducible repeat (first | refine blk_drewN ?_ _ | refine blk_drew ?_ | refine blk_alloc ?_ _)); exact BK224.out)) : gb224 ≠ gb226)); have n9_ := Aside0.mk ((by rw [hg]; exact Nat.ne_of_gt (blk_lt (g := gb224) (o := .cells #[.int .i64 t220, .int .i64 t221, .int .i64 t222] 115 (0, 0)) (by (with_reducible repeat (first | refine blk_drewN ?_ _ | refine blk_drew ?_ | refine blk_alloc ?_ _)); exact BK224.out)) : gb226 ≠ gb224)); clear BK219; clear BK224; clear HB; have BK219 := n0_; have BK224 := n1_; have HB := n2_; have BK226 := n3_; have GW226 := n4_; have GE226 := n5_; have NB219_226 := n6_; have NB226_219 := n7_; have NB224_226 := n8_; have NB226_224 := n9_; clear n0_ n1_ n2_ n3_ n4_ n5_ n6_ n7_ n8_ n9_; clear hb hbox hg; have hnb28 := NB226_219.out; have hnc28 := NB219_226.out; have hnb29 := NB226_224.out; have hnc29 := NB224_226.out; have hcz30_0 : w27.cell? ⟨gb226, 0, none⟩ = some (.int .i64 0) := (blk_cell BK226.out 0).trans rfl; have hcz30_1 : w27.cell? ⟨gb226, 1, none⟩ = some (.int .i64 0) := (blk_cell BK226.out 1).trans rfl; have hcz30_2 : w27.cell? ⟨gb226, 2, none⟩ = some (.int .i64 0) := (blk_cell BK226.out 2).trans rfl; have hcz30_3 : w27.cell? ⟨gb226, 3, none⟩ = some (.int .i64 0) := (blk_cell BK226.out 3).trans rfl; have hcz30_4 : w27.cell? ⟨gb226, 4, none⟩ = some (.int .i64 0) := (blk_cell BK226.out 4).trans rfl; have hcz30_5 : w27.cell? ⟨gb226, 5, none⟩ = some (.int .i64 0) := (blk_cell BK226.out 5).trans rfl; have hcz30_6 : w27.cell? ⟨gb226, 6, none⟩ = some (.int .i64 0) := (blk_cell BK226.out 6).trans rfl; have hcz30_7 : w27.cell? ⟨gb226, 7, none⟩ = some (.int .i64 0) := (blk_cell BK226.out 7).trans rfl; have hcz30_8 : w27.cell? ⟨gb226, 8, none⟩ = some (.int .i64 0) := (blk_cell BK226.out 8).trans rfl; have hfz30_0 := blk_frozen BK226.out 0; have hfz30_1 := blk_frozen BK226.out 1; have hfz30_2 := blk_frozen BK226.out 2; have hfz30_3 := blk_frozen BK226.out 3; have hfz30_4 := blk_frozen BK226.out 4; have hfz30_5 := blk_frozen BK226.out 5; have hfz30_6 := blk_frozen BK226.out 6; have hfz30_7 := blk_frozen BK226.out 7; have hfz30_8 := blk_frozen BK226.out 8; have hcz31_0 : w27.cell? ⟨gb224, 0, none⟩ = some (.int .i64 t220) := (blk_cell BK224.out 0).trans rfl; have hcz31_1 : w27.cell? ⟨gb224, 1, none⟩ = some (.int .i64 t221) := (blk_cell BK224.out 1).trans rfl; have hcz31_2 : w27.cell? ⟨gb224, 2, none⟩ = some (.int .i64 t222) := (blk_cell BK224.out 2).trans rfl; have hfz31_0 := blk_frozen BK224.out 0; have hfz31_1 := blk_frozen BK224.out 1; have hfz31_2 := blk_frozen BK224.out 2))
            go_loopg [9] k1 (fun kq v9 w' => ∃ (x9_2 : Int), v9 = .int .i64 x9_2 ∧ Aside0 (tenorref6_holiday.l1 kq a1 x7_1 x9_2 a0_0 l0_1 t220 t221 t222 ((rd_T63 l0_1 x7_1).f0) ((rd_T63 l0_1 x7_1).f1) ((rd_T63 l0_1 x7_1).f2) ((rd_T63 l0_1 x7_1).f3) ((rd_T63 l0_1 x7_1).f4) ((rd_T63 l0_1 x7_1).f5) ((rd_T63 l0_1 x7_1).f6) ((rd_T63 l0_1 x7_1).f7) ((rd_T63 l0_1 x7_1).f8) = some r) ∧ Aside0 (kq ≤ k1) ∧ Aside0 (w'.heap[gb219]? = some (.cells #[.int .i64 a0_0, (.slice (some ad225) l0_1.length c0_1)] 24 (0, 0))) ∧ Aside0 (w'.heap[gb224]? = some (.cells #[.int .i64 t220, .int .i64 t221, .int .i64 t222] 115 (0, 0))) ∧ Aside0 (w'.heap[gb226]? = some (.cells #[.int .i64 ((rd_T63 l0_1 x7_1).f0), .int .i64 ((rd_T63 l0_1 x7_1).f1), .int .i64 ((rd_T63 l0_1 x7_1).f2), .int .i64 ((rd_T63 l0_1 x7_1).f3), .int .i64 ((rd_T63 l0_1 x7_1).f4), .int .i64 ((rd_T63 l0_1 x7_1).f5), .int .i64 ((rd_T63 l0_1 x7_1).f6), .int .i64 ((rd_T63 l0_1 x7_1).f7), .int .i64 ((rd_T63 l0_1 x7_1).f8)] 63 (0, 0))) ∧ Aside0 (Below w.heap.size w w'))
            case atStart => exact ⟨(wrap64 (t220 - 1)), (by first | rfl | (simp; done) | (simp [*]; done)), H', ⟨Nat.le_refl _⟩, ⟨by (with_reducible repeat (first | refine blk_drewN ?_ _ | refine blk_drew ?_ | refine blk_alloc ?_ _)); refine blk_far ?_ NB219_226.out _; (with_reducible repeat (first | refine blk_drewN ?_ _ | refine blk_drew ?_ | refine blk_alloc ?_ _)); refine blk_far ?_ NB219_226.out _; (with_reducible repeat (first | refine blk_drewN ?_ _ | refine blk_drew ?_ | refine blk_alloc ?_ _)); refine blk_far ?_ NB219_226.out _; (with_reducible repeat (first | refine blk_drewN ?_ _ | refine blk_drew ?_ | refine blk_alloc ?_ _)); refine blk_far ?_ NB219_226.out _; (with_reducible repeat (first | refine blk_drewN ?_ _ | refine blk_drew ?_ | refine blk_alloc ?_ _)); refine blk_far ?_ NB219_226.out _; (with_reducible repeat (first | refine blk_drewN ?_ _ | refine blk_drew ?_ | refine blk_alloc ?_ _)); refine blk_far ?_ NB219_226.out _; (with_reducible repeat (first | refine blk_drewN ?_ _ | refine blk_drew ?_ | refine blk_alloc ?_ _)); refine blk_far ?_ NB219_226.out _; (with_reducible repeat (first | refine blk_drewN ?_ _ | refine blk_drew ?_ | refine blk_alloc ?_ _)); refine blk_far ?_ NB219_226.out _; (with_reducible repeat (first | refine blk_drewN ?_ _ | refine blk_drew ?_ | refine blk_alloc ?_ _)); refine blk_far ?_ NB219_226.out _; (with_reducible repeat (first | refine blk_drewN ?_ _ | refine blk_drew ?_ | refine blk_alloc ?_ _)); exact BK219.out⟩, ⟨by (with_reducible repeat (first | refine blk_drewN ?_ _ | refine blk_drew ?_ | refine blk_alloc ?_ _)); refine blk_far ?_ NB224_226.out _; (with_reducible repeat (first | refine blk_drewN ?_ _ | refine blk_drew ?_ | refine blk_alloc ?_ _)); refine blk_far ?_ NB224_226.out _; (with_reducible repeat (first | refine blk_drewN ?_ _ | refine blk_drew ?_ | refine blk_alloc ?_ _)); refine blk_far ?_ NB224_226.out _; (with_reducible repeat (first | refine blk_drewN ?_ _ | refine blk_drew ?_ | refine blk_alloc ?_ _)); refine blk_far ?_ NB224_226.out _; (with_reducible repeat (first | refine blk_drewN ?_ _ | refine blk_drew ?_ | refine blk_alloc ?_ _)); refine blk_far ?_ NB224_226.out _; (with_reducible repeat (first | refine blk_drewN ?_ _ | refine blk_drew ?_ | refine blk_alloc ?_ _)); refine blk_far ?_ NB224_226.out _; (with_reducible repeat (first | refine blk_drewN ?_ _ | refine blk_drew ?_ | refine blk_alloc ?_ _)); refine blk_far ?_ NB224_226.out _; (with_reducible repeat (first | refine blk_drewN ?_ _ | refine blk_drew ?_ | refine blk_alloc ?_ _)); refine blk_far ?_ NB224_226.out _; (with_reducible repeat (first | refine blk_drewN ?_ _ | refine blk_drew ?_ | refine blk_alloc ?_ _)); refine blk_far ?_ NB224_226.out _; (with_reducible repeat (first | refine blk_drewN ?_ _ | refine blk_drew ?_ | refine blk_alloc ?_ _)); exact BK224.out⟩, ⟨by (with_reducible repeat (first | refine blk_drewN ?_ _ | refine blk_drew ?_ | refine blk_alloc ?_ _)); refine blk_put (cs := #[.int .i64 ((rd_T63 l0_1 x7_1).f0), .int .i64 ((rd_T63 l0_1 x7_1).f1), .int .i64 ((rd_T63 l0_1 x7_1).f2), .int .i64 ((rd_T63 l0_1 x7_1).f3), .int .i64 ((rd_T63 l0_1 x7_1).f4), .int .i64 ((rd_T63 l0_1 x7_1).f5), .int .i64 ((rd_T63 l0_1 x7_1).f6), .int .i64 ((rd_T63 l0_1 x7_1).f7), .int .i64 0]) ?_ 8 _ rfl; (with_reducible repeat (first | refine blk_drewN ?_ _ | refine blk_drew ?_ | refine blk_alloc ?_ _)); refine blk_put (cs := #[.int .i64 ((rd_T63 l0_1 x7_1).f0), .int .i64 ((rd_T63 l0_1 x7_1).f1), .int .i64 ((rd_T63 l0_1 x7_1).f2), .int .i64 ((rd_T63 l0_1 x7_1).f3), .int .i64 ((rd_T63 l0_1 x7_1).f4), .int .i64 ((rd_T63 l0_1 x7_1).f5), .int .i64 ((rd_T63 l0_1 x7_1).f6), .int .i64 0, .int .i64 0]) ?_ 7 _ rfl; (with_reducible repeat (first | refine blk_drewN ?_ _ | refine blk_drew ?_ | refine blk_alloc ?_ _)); refine blk_put (cs := #[.int .i64 ((rd_T63 l0_1 x7_1).f0), .int .i64 ((rd_T63 l0_1 x7_1).f1), .int .i64 ((rd_T63 l0_1 x7_1).f2), .int .i64 ((rd_T63 l0_1 x7_1).f3), .int .i64 ((rd_T63 l0_1 x7_1).f4), .int .i64 ((rd_T63 l0_1 x7_1).f5), .int .i64 0, .int .i64 0, .int .i64 0]) ?_ 6 _ rfl; (with_reducible repeat (first | refine blk_drewN ?_ _ | refine blk_drew ?_ | refine blk_alloc ?_ _)); refine blk_put (cs := #[.int .i64 ((rd_T63 l0_1 x7_1).f0), .int .i64 ((rd_T63 l0_1 x7_1).f1), .int .i64 ((rd_T63 l0_1 x7_1).f2), .int .i64 ((rd_T63 l0_1 x7_1).f3), .int .i64 ((rd_T63 l0_1 x7_1).f4), .int .i64 0, .int .i64 0, .int .i64 0, .int .i64 0]) ?_ 5 _ rfl; (with_reducible repeat (first | refine blk_drewN ?_ _ | refine blk_drew ?_ | refine blk_alloc ?_ _)); refine blk_put (cs := #[.int .i64 ((rd_T63 l0_1 x7_1).f0), .int .i64 ((rd_T63 l0_1 x7_1).f1), .int .i64 ((rd_T63 l0_1 x7_1).f2), .int .i64 ((rd_T63 l0_1 x7_1).f3), .int .i64 0, .int .i64 0, .int .i64 0, .int .i64 0, .int .i64 0]) ?_ 4 _ rfl; (with_reducible repeat (first | refine blk_drewN ?_ _ | refine blk_drew ?_ | refine blk_alloc ?_ _)); refine blk_put (cs := #[.int .i64 ((rd_T63 l0_1 x7_1).f0), .int .i64 ((rd_T63 l0_1 x7_1).f1), .int .i64 ((rd_T63 l0_1 x7_1).f2), .int .i64 0, .int .i64 0, .int .i64 0, .int .i64 0, .int .i64 0, .int .i64 0]) ?_ 3 _ rfl; (with_reducible repeat (first | refine blk_drewN ?_ _ | refine blk_drew ?_ | refine blk_alloc ?_ _)); refine blk_put (cs := #[.int .i64 ((rd_T63 l0_1 x7_1).f0), .int .i64 ((rd_T63 l0_1 x7_1).f1), .int .i64 0, .int .i64 0, .int .i64 0, .int .i64 0, .int .i64 0, .int .i64 0, .int .i64 0]) ?_ 2 _ rfl; (with_reducible repeat (first | refine blk_drewN ?_ _ | refine blk_drew ?_ | refine blk_alloc ?_ _)); refine blk_put (cs := #[.int .i64 ((rd_T63 l0_1 x7_1).f0), .int .i64 0, .int .i64 0, .int .i64 0, .int .i64 0, .int .i64 0, .int .i64 0, .int .i64 0, .int .i64 0]) ?_ 1 _ rfl; (with_reducible repeat (first | refine blk_drewN ?_ _ | refine blk_drew ?_ | refine blk_alloc ?_ _)); refine blk_put (cs := #[.int .i64 0, .int .i64 0, .int .i64 0, .int .i64 0, .int .i64 0, .int .i64 0, .int .i64 0, .int .i64 0, .int .i64 0]) ?_ 0 _ rfl; (with_reducible repeat (first | refine blk_drewN ?_ _ | refine blk_drew ?_ | refine blk_alloc ?_ _)); exact BK226.out⟩, ⟨by repeat (first | (with_reducible first | exact HB.out | apply below_alloc | apply pw_below_drewN | apply below_drew1 | refine below_set ?_ GE219.out | refine below_set ?_ GE224.out | refine below_set ?_ GE226.out) | exact HB.out)⟩⟩
            case round =>
              clear H'
              try clear c1
              try clear c2
              try clear p2
              try clear q2
              try clear hx2
              try clear p6
              try clear c7
              try clear c9
              try clear c9b0
              try clear c10
              try clear c10b0
              try clear c11
              try clear c11b0
              try clear c11b1
              try clear c12
              try clear c12b0
              try clear c12b1
              try clear c13
              try clear c16
              try clear c17
              try clear c19
              try clear c22
              try clear p22
              try clear q22
              try clear hx22
              try clear c23
              try clear c25
              try clear c28
              try clear c29
              try clear hcz14_0
              try clear hcz14_1
              try clear hcz18_0
              try clear hcz18_1
              try clear hcz18_2
              try clear hcz18_3
              try clear hcz18_4
              try clear hcz18_5
              try clear hcz18_6
              try clear hcz18_7
              try clear hcz18_8
              try clear hcz20_0
              try clear hcz20_1
              try clear hcz24_0
              try clear hcz24_1
              try clear hcz24_2
              try clear hcz24_3
              try clear hcz24_4
              try clear hcz24_5
              try clear hcz24_6
              try clear hcz24_7
              try clear hcz24_8
              try clear hcz26_0
              try clear hcz26_1
              try clear hcz30_0
              try clear hcz30_1
              try clear hcz30_2
              try clear hcz30_3
              try clear hcz30_4
              try clear hcz30_5
              try clear hcz30_6
              try clear hcz30_7
              try clear hcz30_8
              try clear hcz31_0
              try clear hcz31_1
              try clear hcz31_2
              try clear hcz8_0
              try clear hcz8_1
              try clear hcz8_2
              try clear hfz14_0
              try clear hfz14_1
              try clear hfz18_0
              try clear hfz18_1
              try clear hfz18_2
              try clear hfz18_3
              try clear hfz18_4
              try clear hfz18_5
              try clear hfz18_6
              try clear hfz18_7
              try clear hfz18_8
              try clear hfz20_0
              try clear hfz20_1
              try clear hfz24_0
              try clear hfz24_1
              try clear hfz24_2
              try clear hfz24_3
              try clear hfz24_4
              try clear hfz24_5
              try clear hfz24_6
              try clear hfz24_7
              try clear hfz24_8
              try clear hfz26_0
              try clear hfz26_1
              try clear hfz30_0
              try clear hfz30_1
              try clear hfz30_2
              try clear hfz30_3
              try clear hfz30_4
              try clear hfz30_5
              try clear hfz30_6
              try clear hfz30_7
              try clear hfz30_8
              try clear hfz31_0
              try clear hfz31_1
              try clear hfz31_2
              try clear hfz8_0
              try clear hfz8_1
              try clear hfz8_2
              try clear hx225_0
              try clear hx225_1
              try clear hx225_2
              try clear hx225_3
              try clear hx225_4
              try clear hx225_5
              try clear hx225_6
              try clear hx225_7
              try clear hx225_8
              try clear p2
              try clear p225
              try clear q225
              obtain ⟨x9_2, rfl, HA, HK2, BK219, BK224, BK226, HB⟩ := hrel
              cases gk with
              | zero => exact absurd HA.out (by simp [tenorref6_holiday.l1])
              | succ k2 =>
                have H := HA.out
                clear HA
                simp only [tenorref6_holiday.l1] at H
                by_cases c32 : x9_2 ≤ (wrap64 (t220 + 1))
                · rw [if_pos c32] at H
                  have c32b0 : decide (x9_2 ≤ (wrap64 (t220 + 1))) = true := decide_eq_true c32
                  clear c32
                  replace H := Option.bind_eq_some_iff.mp H
                  obtain ⟨⟨t227, t228⟩, A330, H⟩ := H
                  replace H : (if t228 = true then (if t227 = a1 then (some true) else (tenorref6_holiday.l1 k2 a1 x7_1 (wrap64 (x9_2 + 1)) a0_0 l0_1 t220 t221 t222 ((rd_T63 l0_1 x7_1).f0) ((rd_T63 l0_1 x7_1).f1) ((rd_T63 l0_1 x7_1).f2) ((rd_T63 l0_1 x7_1).f3) ((rd_T63 l0_1 x7_1).f4) ((rd_T63 l0_1 x7_1).f5) ((rd_T63 l0_1 x7_1).f6) ((rd_T63 l0_1 x7_1).f7) ((rd_T63 l0_1 x7_1).f8))) else (tenorref6_holiday.l1 k2 a1 x7_1 (wrap64 (x9_2 + 1)) a0_0 l0_1 t220 t221 t222 ((rd_T63 l0_1 x7_1).f0) ((rd_T63 l0_1 x7_1).f1) ((rd_T63 l0_1 x7_1).f2) ((rd_T63 l0_1 x7_1).f3) ((rd_T63 l0_1 x7_1).f4) ((rd_T63 l0_1 x7_1).f5) ((rd_T63 l0_1 x7_1).f6) ((rd_T63 l0_1 x7_1).f7) ((rd_T63 l0_1 x7_1).f8))) = some r := H
                  have A33 := Aside0.mk A330
                  clear A330
                  by_cases c34 : t228 = true
                  · subst c34
                    have H1 : (if t227 = a1 then (some true) else (tenorref6_holiday.l1 k2 a1 x7_1 (wrap64 (x9_2 + 1)) a0_0 l0_1 t220 t221 t222 ((rd_T63 l0_1 x7_1).f0) ((rd_T63 l0_1 x7_1).f1) ((rd_T63 l0_1 x7_1).f2) ((rd_T63 l0_1 x7_1).f3) ((rd_T63 l0_1 x7_1).f4) ((rd_T63 l0_1 x7_1).f5) ((rd_T63 l0_1 x7_1).f6) ((rd_T63 l0_1 x7_1).f7) ((rd_T63 l0_1 x7_1).f8))) = some r := by rw [if_pos rfl] at H; exact H
                    clear H
                    have H := H1
                    clear H1
                    by_cases c35 : t227 = a1
                    · rw [if_pos c35] at H
                      have c35b0 : (t227 == a1) = true := beq_iff_eq.mpr c35
                      have c35b1 : (t227 != a1) = false := bne_eq_false_iff_eq.mpr c35
                      clear c35
                      obtain rfl := Option.some.inj H
                      have hnb36 := NB224_219.out
                      have hnc36 := NB219_224.out
                      have hnb37 := NB224_226.out
                      have hnc37 := NB226_224.out
                      have hcz38_0 : wr.cell? ⟨gb224, 0, none⟩ = some (.int .i64 t220) := (blk_cell BK224.out 0).trans rfl
                      have hcz38_1 : wr.cell? ⟨gb224, 1, none⟩ = some (.int .i64 t221) := (blk_cell BK224.out 1).trans rfl
                      have hcz38_2 : wr.cell? ⟨gb224, 2, none⟩ = some (.int .i64 t222) := (blk_cell BK224.out 2).trans rfl
                      have hfz38_0 := blk_frozen BK224.out 0
                      have hfz38_1 := blk_frozen BK224.out 1
                      have hfz38_2 := blk_frozen BK224.out 2
                      have hnb39 := NB219_226.out
                      have hnc39 := NB226_219.out
                      have hcz40_0 : wr.cell? ⟨gb219, 0, none⟩ = some (.int .i64 a0_0) := (blk_cell BK219.out 0).trans rfl
                      have hcz40_1 : wr.cell? ⟨gb219, 1, none⟩ = some (.slice (some ad225) l0_1.length c0_1) := (blk_cell BK219.out 1).trans rfl
                      have hfz40_0 := blk_frozen BK219.out 0
                      have hfz40_1 := blk_frozen BK219.out 1
                      have hcz41_0 : wr.cell? ⟨gb226, 0, none⟩ = some (.int .i64 ((rd_T63 l0_1 x7_1).f0)) := (blk_cell BK226.out 0).trans rfl
                      have hcz41_1 : wr.cell? ⟨gb226, 1, none⟩ = some (.int .i64 ((rd_T63 l0_1 x7_1).f1)) := (blk_cell BK226.out 1).trans rfl
                      have hcz41_2 : wr.cell? ⟨gb226, 2, none⟩ = some (.int .i64 ((rd_T63 l0_1 x7_1).f2)) := (blk_cell BK226.out 2).trans rfl
                      have hcz41_3 : wr.cell? ⟨gb226, 3, none⟩ = some (.int .i64 ((rd_T63 l0_1 x7_1).f3)) := (blk_cell BK226.out 3).trans rfl
                      have hcz41_4 : wr.cell? ⟨gb226, 4, none⟩ = some (.int .i64 ((rd_T63 l0_1 x7_1).f4)) := (blk_cell BK226.out 4).trans rfl
                      have hcz41_5 : wr.cell? ⟨gb226, 5, none⟩ = some (.int .i64 ((rd_T63 l0_1 x7_1).f5)) := (blk_cell BK226.out 5).trans rfl
                      have hcz41_6 : wr.cell? ⟨gb226, 6, none⟩ = some (.int .i64 ((rd_T63 l0_1 x7_1).f6)) := (blk_cell BK226.out 6).trans rfl
                      have hcz41_7 : wr.cell? ⟨gb226, 7, none⟩ = some (.int .i64 ((rd_T63 l0_1 x7_1).f7)) := (blk_cell BK226.out 7).trans rfl
                      have hcz41_8 : wr.cell? ⟨gb226, 8, none⟩ = some (.int .i64 ((rd_T63 l0_1 x7_1).f8)) := (blk_cell BK226.out 8).trans rfl
                      have hfz41_0 := blk_frozen BK226.out 0
                      have hfz41_1 := blk_frozen BK226.out 1
                      have hfz41_2 := blk_frozen BK226.out 2
                      have hfz41_3 := blk_frozen BK226.out 3
                      have hfz41_4 := blk_frozen BK226.out 4
                      have hfz41_5 := blk_frozen BK226.out 5
                      have hfz41_6 := blk_frozen BK226.out 6
                      have hfz41_7 := blk_frozen BK226.out 7
                      have hfz41_8 := blk_frozen BK226.out 8
                      go_wp2_with (first | ((with_reducible refine gate_callee (f := 110) rfl ?_); refine goesL_ (some 50) rfl rfl Try.func110 (by kernel_rfl) rfl #[.agg #[.int .i64 a0_0, .slice (some ad225) l0_1.length c0_1], .agg #[.int .i64 ((rd_T63 l0_1 x7_1).f0), .int .i64 ((rd_T63 l0_1 x7_1).f1), .int .i64 ((rd_T63 l0_1 x7_1).f2), .int .i64 ((rd_T63 l0_1 x7_1).f3), .int .i64 ((rd_T63 l0_1 x7_1).f4), .int .i64 ((rd_T63 l0_1 x7_1).f5), .int .i64 ((rd_T63 l0_1 x7_1).f6), .int .i64 ((rd_T63 l0_1 x7_1).f7), .int .i64 ((rd_T63 l0_1 x7_1).f8)], .int .i64 x9_2] rfl (by (try simp only [List.map_toArray, List.map_cons, List.map_nil]); first | done | rfl | (simp only [List.length_drop, List.length_take]; rfl)) ?_; (with_reducible refine (tenorref6_day.calls k2 a0_0 _ _ l0_1 ((rd_T63 l0_1 x7_1).f0) ((rd_T63 l0_1 x7_1).f1) ((rd_T63 l0_1 x7_1).f2) ((rd_T63 l0_1 x7_1).f3) ((rd_T63 l0_1 x7_1).f4) ((rd_T63 l0_1 x7_1).f5) ((rd_T63 l0_1 x7_1).f6) ((rd_T63 l0_1 x7_1).f7) ((rd_T63 l0_1 x7_1).f8) x9_2 t227 true _ ?side1 ?side2 A33.out).mono ?_); (case side1 => repeat (first | exact (Kd.C_below HR0_1.out HB.out) | (with_reducible refine Kd.C_alloc ?_ _) | (with_reducible refine Kd.C_drewN ?_ _) | (with_reducible refine Kd.C_drew ?_))); (case side2 => exact HC0_1.out); rintro e w42 ⟨rfl, hb⟩; refine ⟨_, rfl, ?_⟩; have n0_ := Aside0.mk (blk_below (g := gb219) (o := .cells #[.int .i64 a0_0, .slice (some ad225) l0_1.length c0_1] 24 (0, 0)) (by (with_reducible repeat (first | refine blk_drewN ?_ _ | refine blk_drew ?_ | refine blk_alloc ?_ _)); exact BK219.out) hb); have n1_ := Aside0.mk (blk_below (g := gb224) (o := .cells #[.int .i64 t220, .int .i64 t221, .int .i64 t222] 115 (0, 0)) (by (with_reducible repeat (first | refine blk_drewN ?_ _ | refine blk_drew ?_ | refine blk_alloc ?_ _)); exact BK224.out) hb); have n2_ := Aside0.mk (blk_below (g := gb226) (o := .cells #[.int .i64 ((rd_T63 l0_1 x7_1).f0), .int .i64 ((rd_T63 l0_1 x7_1).f1), .int .i64 ((rd_T63 l0_1 x7_1).f2), .int .i64 ((rd_T63 l0_1 x7_1).f3), .int .i64 ((rd_T63 l0_1 x7_1).f4), .int .i64 ((rd_T63 l0_1 x7_1).f5), .int .i64 ((rd_T63 l0_1 x7_1).f6), .int .i64 ((rd_T63 l0_1 x7_1).f7), .int .i64 ((rd_T63 l0_1 x7_1).f8)] 63 (0, 0)) (by (with_reducible repeat (first | refine blk_drewN ?_ _ | refine blk_drew ?_ | refine blk_alloc ?_ _)); exact BK226.out) hb); have n3_ := Aside0.mk (below_step (by repeat (first | (with_reducible first | exact HB.out | apply below_alloc | apply pw_below_drewN | apply below_drew1 | refine below_set ?_ GE219.out | refine below_set ?_ GE224.out | refine below_set ?_ GE226.out) | exact HB.out)) hb); clear BK219; clear BK224; clear BK226; clear HB; have BK219 := n0_; have BK224 := n1_; have BK226 := n2_; have HB := n3_; clear n0_ n1_ n2_ n3_; (try clear hb); (try clear hb2); (try clear hk); (try clear hi)))
                      go_ret
                      exact ⟨by first | rfl | (simp [errW_none, errW_some] <;> rfl) | (simp [*, errW_none, errW_some] <;> rfl), by repeat (first | (with_reducible first | exact HB.out | apply below_alloc | apply pw_below_drewN | apply below_drew1 | refine below_set ?_ GE219.out | refine below_set ?_ GE224.out | refine below_set ?_ GE226.out) | exact HB.out)⟩
                    · rw [if_neg c35] at H
                      have c35b0 : (t227 == a1) = false := beq_eq_false_iff_ne.mpr c35
                      have c35b1 : (t227 != a1) = true := bne_iff_ne.mpr c35
                      have H' := Aside0.mk H
                      clear H
                      have hnb43 := NB224_219.out
                      have hnc43 := NB219_224.out
                      have hnb44 := NB224_226.out
                      have hnc44 := NB226_224.out
                      have hcz45_0 : wr.cell? ⟨gb224, 0, none⟩ = some (.int .i64 t220) := (blk_cell BK224.out 0).trans rfl
                      have hcz45_1 : wr.cell? ⟨gb224, 1, none⟩ = some (.int .i64 t221) := (blk_cell BK224.out 1).trans rfl
                      have hcz45_2 : wr.cell? ⟨gb224, 2, none⟩ = some (.int .i64 t222) := (blk_cell BK224.out 2).trans rfl
                      have hfz45_0 := blk_frozen BK224.out 0
                      have hfz45_1 := blk_frozen BK224.out 1
                      have hfz45_2 := blk_frozen BK224.out 2
                      have hnb46 := NB219_226.out
                      have hnc46 := NB226_219.out
                      have hcz47_0 : wr.cell? ⟨gb219, 0, none⟩ = some (.int .i64 a0_0) := (blk_cell BK219.out 0).trans rfl
                      have hcz47_1 : wr.cell? ⟨gb219, 1, none⟩ = some (.slice (some ad225) l0_1.length c0_1) := (blk_cell BK219.out 1).trans rfl
                      have hfz47_0 := blk_frozen BK219.out 0
                      have hfz47_1 := blk_frozen BK219.out 1
                      have hcz48_0 : wr.cell? ⟨gb226, 0, none⟩ = some (.int .i64 ((rd_T63 l0_1 x7_1).f0)) := (blk_cell BK226.out 0).trans rfl
                      have hcz48_1 : wr.cell? ⟨gb226, 1, none⟩ = some (.int .i64 ((rd_T63 l0_1 x7_1).f1)) := (blk_cell BK226.out 1).trans rfl
                      have hcz48_2 : wr.cell? ⟨gb226, 2, none⟩ = some (.int .i64 ((rd_T63 l0_1 x7_1).f2)) := (blk_cell BK226.out 2).trans rfl
                      have hcz48_3 : wr.cell? ⟨gb226, 3, none⟩ = some (.int .i64 ((rd_T63 l0_1 x7_1).f3)) := (blk_cell BK226.out 3).trans rfl
                      have hcz48_4 : wr.cell? ⟨gb226, 4, none⟩ = some (.int .i64 ((rd_T63 l0_1 x7_1).f4)) := (blk_cell BK226.out 4).trans rfl
                      have hcz48_5 : wr.cell? ⟨gb226, 5, none⟩ = some (.int .i64 ((rd_T63 l0_1 x7_1).f5)) := (blk_cell BK226.out 5).trans rfl
                      have hcz48_6 : wr.cell? ⟨gb226, 6, none⟩ = some (.int .i64 ((rd_T63 l0_1 x7_1).f6)) := (blk_cell BK226.out 6).trans rfl
                      have hcz48_7 : wr.cell? ⟨gb226, 7, none⟩ = some (.int .i64 ((rd_T63 l0_1 x7_1).f7)) := (blk_cell BK226.out 7).trans rfl
                      have hcz48_8 : wr.cell? ⟨gb226, 8, none⟩ = some (.int .i64 ((rd_T63 l0_1 x7_1).f8)) := (blk_cell BK226.out 8).trans rfl
                      have hfz48_0 := blk_frozen BK226.out 0
                      have hfz48_1 := blk_frozen BK226.out 1
                      have hfz48_2 := blk_frozen BK226.out 2
                      have hfz48_3 := blk_frozen BK226.out 3
                      have hfz48_4 := blk_frozen BK226.out 4
                      have hfz48_5 := blk_frozen BK226.out 5
                      have hfz48_6 := blk_frozen BK226.out 6
                      have hfz48_7 := blk_frozen BK226.out 7
                      have hfz48_8 := blk_frozen BK226.out 8
                      go_wp2_with (first | ((with_reducible refine gate_callee (f := 110) rfl ?_); refine goesL_ (some 50) rfl rfl Try.func110 (by kernel_rfl) rfl #[.agg #[.int .i64 a0_0, .slice (some ad225) l0_1.length c0_1], .agg #[.int .i64 ((rd_T63 l0_1 x7_1).f0), .int .i64 ((rd_T63 l0_1 x7_1).f1), .int .i64 ((rd_T63 l0_1 x7_1).f2), .int .i64 ((rd_T63 l0_1 x7_1).f3), .int .i64 ((rd_T63 l0_1 x7_1).f4), .int .i64 ((rd_T63 l0_1 x7_1).f5), .int .i64 ((rd_T63 l0_1 x7_1).f6), .int .i64 ((rd_T63 l0_1 x7_1).f7), .int .i64 ((rd_T63 l0_1 x7_1).f8)], .int .i64 x9_2] rfl (by (try simp only [List.map_toArray, List.map_cons, List.map_nil]); first | done | rfl | (simp only [List.length_drop, List.length_take]; rfl)) ?_; (with_reducible refine (tenorref6_day.calls k2 a0_0 _ _ l0_1 ((rd_T63 l0_1 x7_1).f0) ((rd_T63 l0_1 x7_1).f1) ((rd_T63 l0_1 x7_1).f2) ((rd_T63 l0_1 x7_1).f3) ((rd_T63 l0_1 x7_1).f4) ((rd_T63 l0_1 x7_1).f5) ((rd_T63 l0_1 x7_1).f6) ((rd_T63 l0_1 x7_1).f7) ((rd_T63 l0_1 x7_1).f8) x9_2 t227 true _ ?side1 ?side2 A33.out).mono ?_); (case side1 => repeat (first | exact (Kd.C_below HR0_1.out HB.out) | (with_reducible refine Kd.C_alloc ?_ _) | (with_reducible refine Kd.C_drewN ?_ _) | (with_reducible refine Kd.C_drew ?_))); (case side2 => exact HC0_1.out); rintro e w49 ⟨rfl, hb⟩; refine ⟨_, rfl, ?_⟩; have n0_ := Aside0.mk (blk_below (g := gb219) (o := .cells #[.int .i64 a0_0, .slice (some ad225) l0_1.length c0_1] 24 (0, 0)) (by (with_reducible repeat (first | refine blk_drewN ?_ _ | refine blk_drew ?_ | refine blk_alloc ?_ _)); exact BK219.out) hb); have n1_ := Aside0.mk (blk_below (g := gb224) (o := .cells #[.int .i64 t220, .int .i64 t221, .int .i64 t222] 115 (0, 0)) (by (with_reducible repeat (first | refine blk_drewN ?_ _ | refine blk_drew ?_ | refine blk_alloc ?_ _)); exact BK224.out) hb); have n2_ := Aside0.mk (blk_below (g := gb226) (o := .cells #[.int .i64 ((rd_T63 l0_1 x7_1).f0), .int .i64 ((rd_T63 l0_1 x7_1).f1), .int .i64 ((rd_T63 l0_1 x7_1).f2), .int .i64 ((rd_T63 l0_1 x7_1).f3), .int .i64 ((rd_T63 l0_1 x7_1).f4), .int .i64 ((rd_T63 l0_1 x7_1).f5), .int .i64 ((rd_T63 l0_1 x7_1).f6), .int .i64 ((rd_T63 l0_1 x7_1).f7), .int .i64 ((rd_T63 l0_1 x7_1).f8)] 63 (0, 0)) (by (with_reducible repeat (first | refine blk_drewN ?_ _ | refine blk_drew ?_ | refine blk_alloc ?_ _)); exact BK226.out) hb); have n3_ := Aside0.mk (below_step (by repeat (first | (with_reducible first | exact HB.out | apply below_alloc | apply pw_below_drewN | apply below_drew1 | refine below_set ?_ GE219.out | refine below_set ?_ GE224.out | refine below_set ?_ GE226.out) | exact HB.out)) hb); clear BK219; clear BK224; clear BK226; clear HB; have BK219 := n0_; have BK224 := n1_; have BK226 := n2_; have HB := n3_; clear n0_ n1_ n2_ n3_; (try clear hb); (try clear hb2); (try clear hk); (try clear hi)))
                      go_roundg k2
                      case measure => have := HK1.out; have := HK2.out; omega
                      case rel => exact ⟨(wrap64 (x9_2 + 1)), (by first | rfl | (simp; done) | (simp [*]; done)), H', ⟨by have := HK1.out; have := HK2.out; omega⟩, ⟨by (with_reducible repeat (first | refine blk_drewN ?_ _ | refine blk_drew ?_ | refine blk_alloc ?_ _)); exact BK219.out⟩, ⟨by (with_reducible repeat (first | refine blk_drewN ?_ _ | refine blk_drew ?_ | refine blk_alloc ?_ _)); exact BK224.out⟩, ⟨by (with_reducible repeat (first | refine blk_drewN ?_ _ | refine blk_drew ?_ | refine blk_alloc ?_ _)); exact BK226.out⟩, ⟨by repeat (first | (with_reducible first | exact HB.out | apply below_alloc | apply pw_below_drewN | apply below_drew1 | refine below_set ?_ GE219.out | refine below_set ?_ GE224.out | refine below_set ?_ GE226.out) | exact HB.out)⟩⟩
                  · replace c34 := Bool.eq_false_iff.mpr c34
                    subst c34
                    have H1 : (tenorref6_holiday.l1 k2 a1 x7_1 (wrap64 (x9_2 + 1)) a0_0 l0_1 t220 t221 t222 ((rd_T63 l0_1 x7_1).f0) ((rd_T63 l0_1 x7_1).f1) ((rd_T63 l0_1 x7_1).f2) ((rd_T63 l0_1 x7_1).f3) ((rd_T63 l0_1 x7_1).f4) ((rd_T63 l0_1 x7_1).f5) ((rd_T63 l0_1 x7_1).f6) ((rd_T63 l0_1 x7_1).f7) ((rd_T63 l0_1 x7_1).f8)) = some r := by rw [if_neg (show ¬ (false = true) by decide)] at H; exact H
                    clear H
                    have H := H1
                    clear H1
                    have H' := Aside0.mk H
                    clear H
                    have hnb50 := NB224_219.out
                    have hnc50 := NB219_224.out
                    have hnb51 := NB224_226.out
                    have hnc51 := NB226_224.out
                    have hcz52_0 : wr.cell? ⟨gb224, 0, none⟩ = some (.int .i64 t220) := (blk_cell BK224.out 0).trans rfl
                    have hcz52_1 : wr.cell? ⟨gb224, 1, none⟩ = some (.int .i64 t221) := (blk_cell BK224.out 1).trans rfl
                    have hcz52_2 : wr.cell? ⟨gb224, 2, none⟩ = some (.int .i64 t222) := (blk_cell BK224.out 2).trans rfl
                    have hfz52_0 := blk_frozen BK224.out 0
                    have hfz52_1 := blk_frozen BK224.out 1
                    have hfz52_2 := blk_frozen BK224.out 2
                    have hnb53 := NB219_226.out
                    have hnc53 := NB226_219.out
                    have hcz54_0 : wr.cell? ⟨gb219, 0, none⟩ = some (.int .i64 a0_0) := (blk_cell BK219.out 0).trans rfl
                    have hcz54_1 : wr.cell? ⟨gb219, 1, none⟩ = some (.slice (some ad225) l0_1.length c0_1) := (blk_cell BK219.out 1).trans rfl
                    have hfz54_0 := blk_frozen BK219.out 0
                    have hfz54_1 := blk_frozen BK219.out 1
                    have hcz55_0 : wr.cell? ⟨gb226, 0, none⟩ = some (.int .i64 ((rd_T63 l0_1 x7_1).f0)) := (blk_cell BK226.out 0).trans rfl
                    have hcz55_1 : wr.cell? ⟨gb226, 1, none⟩ = some (.int .i64 ((rd_T63 l0_1 x7_1).f1)) := (blk_cell BK226.out 1).trans rfl
                    have hcz55_2 : wr.cell? ⟨gb226, 2, none⟩ = some (.int .i64 ((rd_T63 l0_1 x7_1).f2)) := (blk_cell BK226.out 2).trans rfl
                    have hcz55_3 : wr.cell? ⟨gb226, 3, none⟩ = some (.int .i64 ((rd_T63 l0_1 x7_1).f3)) := (blk_cell BK226.out 3).trans rfl
                    have hcz55_4 : wr.cell? ⟨gb226, 4, none⟩ = some (.int .i64 ((rd_T63 l0_1 x7_1).f4)) := (blk_cell BK226.out 4).trans rfl
                    have hcz55_5 : wr.cell? ⟨gb226, 5, none⟩ = some (.int .i64 ((rd_T63 l0_1 x7_1).f5)) := (blk_cell BK226.out 5).trans rfl
                    have hcz55_6 : wr.cell? ⟨gb226, 6, none⟩ = some (.int .i64 ((rd_T63 l0_1 x7_1).f6)) := (blk_cell BK226.out 6).trans rfl
                    have hcz55_7 : wr.cell? ⟨gb226, 7, none⟩ = some (.int .i64 ((rd_T63 l0_1 x7_1).f7)) := (blk_cell BK226.out 7).trans rfl
                    have hcz55_8 : wr.cell? ⟨gb226, 8, none⟩ = some (.int .i64 ((rd_T63 l0_1 x7_1).f8)) := (blk_cell BK226.out 8).trans rfl
                    have hfz55_0 := blk_frozen BK226.out 0
                    have hfz55_1 := blk_frozen BK226.out 1
                    have hfz55_2 := blk_frozen BK226.out 2
                    have hfz55_3 := blk_frozen BK226.out 3
                    have hfz55_4 := blk_frozen BK226.out 4
                    have hfz55_5 := blk_frozen BK226.out 5
                    have hfz55_6 := blk_frozen BK226.out 6
                    have hfz55_7 := blk_frozen BK226.out 7
                    have hfz55_8 := blk_frozen BK226.out 8
                    go_wp2_with (first | ((with_reducible refine gate_callee (f := 110) rfl ?_); refine goesL_ (some 50) rfl rfl Try.func110 (by kernel_rfl) rfl #[.agg #[.int .i64 a0_0, .slice (some ad225) l0_1.length c0_1], .agg #[.int .i64 ((rd_T63 l0_1 x7_1).f0), .int .i64 ((rd_T63 l0_1 x7_1).f1), .int .i64 ((rd_T63 l0_1 x7_1).f2), .int .i64 ((rd_T63 l0_1 x7_1).f3), .int .i64 ((rd_T63 l0_1 x7_1).f4), .int .i64 ((rd_T63 l0_1 x7_1).f5), .int .i64 ((rd_T63 l0_1 x7_1).f6), .int .i64 ((rd_T63 l0_1 x7_1).f7), .int .i64 ((rd_T63 l0_1 x7_1).f8)], .int .i64 x9_2] rfl (by (try simp only [List.map_toArray, List.map_cons, List.map_nil]); first | done | rfl | (simp only [List.length_drop, List.length_take]; rfl)) ?_; (with_reducible refine (tenorref6_day.calls k2 a0_0 _ _ l0_1 ((rd_T63 l0_1 x7_1).f0) ((rd_T63 l0_1 x7_1).f1) ((rd_T63 l0_1 x7_1).f2) ((rd_T63 l0_1 x7_1).f3) ((rd_T63 l0_1 x7_1).f4) ((rd_T63 l0_1 x7_1).f5) ((rd_T63 l0_1 x7_1).f6) ((rd_T63 l0_1 x7_1).f7) ((rd_T63 l0_1 x7_1).f8) x9_2 t227 false _ ?side1 ?side2 A33.out).mono ?_); (case side1 => repeat (first | exact (Kd.C_below HR0_1.out HB.out) | (with_reducible refine Kd.C_alloc ?_ _) | (with_reducible refine Kd.C_drewN ?_ _) | (with_reducible refine Kd.C_drew ?_))); (case side2 => exact HC0_1.out); rintro e w56 ⟨rfl, hb⟩; refine ⟨_, rfl, ?_⟩; have n0_ := Aside0.mk (blk_below (g := gb219) (o := .cells #[.int .i64 a0_0, .slice (some ad225) l0_1.length c0_1] 24 (0, 0)) (by (with_reducible repeat (first | refine blk_drewN ?_ _ | refine blk_drew ?_ | refine blk_alloc ?_ _)); exact BK219.out) hb); have n1_ := Aside0.mk (blk_below (g := gb224) (o := .cells #[.int .i64 t220, .int .i64 t221, .int .i64 t222] 115 (0, 0)) (by (with_reducible repeat (first | refine blk_drewN ?_ _ | refine blk_drew ?_ | refine blk_alloc ?_ _)); exact BK224.out) hb); have n2_ := Aside0.mk (blk_below (g := gb226) (o := .cells #[.int .i64 ((rd_T63 l0_1 x7_1).f0), .int .i64 ((rd_T63 l0_1 x7_1).f1), .int .i64 ((rd_T63 l0_1 x7_1).f2), .int .i64 ((rd_T63 l0_1 x7_1).f3), .int .i64 ((rd_T63 l0_1 x7_1).f4), .int .i64 ((rd_T63 l0_1 x7_1).f5), .int .i64 ((rd_T63 l0_1 x7_1).f6), .int .i64 ((rd_T63 l0_1 x7_1).f7), .int .i64 ((rd_T63 l0_1 x7_1).f8)] 63 (0, 0)) (by (with_reducible repeat (first | refine blk_drewN ?_ _ | refine blk_drew ?_ | refine blk_alloc ?_ _)); exact BK226.out) hb); have n3_ := Aside0.mk (below_step (by repeat (first | (with_reducible first | exact HB.out | apply below_alloc | apply pw_below_drewN | apply below_drew1 | refine below_set ?_ GE219.out | refine below_set ?_ GE224.out | refine below_set ?_ GE226.out) | exact HB.out)) hb); clear BK219; clear BK224; clear BK226; clear HB; have BK219 := n0_; have BK224 := n1_; have BK226 := n2_; have HB := n3_; clear n0_ n1_ n2_ n3_; (try clear hb); (try clear hb2); (try clear hk); (try clear hi)))
                    go_roundg k2
                    case measure => have := HK1.out; have := HK2.out; omega
                    case rel => exact ⟨(wrap64 (x9_2 + 1)), (by first | rfl | (simp; done) | (simp [*]; done)), H', ⟨by have := HK1.out; have := HK2.out; omega⟩, ⟨by (with_reducible repeat (first | refine blk_drewN ?_ _ | refine blk_drew ?_ | refine blk_alloc ?_ _)); exact BK219.out⟩, ⟨by (with_reducible repeat (first | refine blk_drewN ?_ _ | refine blk_drew ?_ | refine blk_alloc ?_ _)); exact BK224.out⟩, ⟨by (with_reducible repeat (first | refine blk_drewN ?_ _ | refine blk_drew ?_ | refine blk_alloc ?_ _)); exact BK226.out⟩, ⟨by repeat (first | (with_reducible first | exact HB.out | apply below_alloc | apply pw_below_drewN | apply below_drew1 | refine below_set ?_ GE219.out | refine below_set ?_ GE224.out | refine below_set ?_ GE226.out) | exact HB.out)⟩⟩
                · rw [if_neg c32] at H
                  have c32b0 : decide (x9_2 ≤ (wrap64 (t220 + 1))) = false := decide_eq_false c32
                  clear c32
                  have H' := Aside0.mk H
                  clear H
                  have hnb57 := NB224_219.out
                  have hnc57 := NB219_224.out
                  have hnb58 := NB224_226.out
                  have hnc58 := NB226_224.out
                  have hcz59_0 : wr.cell? ⟨gb224, 0, none⟩ = some (.int .i64 t220) := (blk_cell BK224.out 0).trans rfl
                  have hcz59_1 : wr.cell? ⟨gb224, 1, none⟩ = some (.int .i64 t221) := (blk_cell BK224.out 1).trans rfl
                  have hcz59_2 : wr.cell? ⟨gb224, 2, none⟩ = some (.int .i64 t222) := (blk_cell BK224.out 2).trans rfl
                  have hfz59_0 := blk_frozen BK224.out 0
                  have hfz59_1 := blk_frozen BK224.out 1
                  have hfz59_2 := blk_frozen BK224.out 2
                  go_wp2
                  go_roundg k2
                  case measure => have := HK1.out; have := HK2.out; omega
                  case rel => exact ⟨(wrap64 (x7_1 + 1)), (by first | rfl | (simp; done) | (simp [*]; done)), H', ⟨by have := HK1.out; have := HK2.out; omega⟩, ⟨by (with_reducible repeat (first | refine blk_drewN ?_ _ | refine blk_drew ?_ | refine blk_alloc ?_ _)); exact BK219.out⟩, ⟨by (with_reducible repeat (first | refine blk_drewN ?_ _ | refine blk_drew ?_ | refine blk_alloc ?_ _)); exact BK224.out⟩, ⟨by repeat (first | (with_reducible first | exact HB.out | apply below_alloc | apply pw_below_drewN | apply below_drew1 | refine below_set ?_ GE219.out | refine below_set ?_ GE224.out | refine below_set ?_ GE226.out) | exact HB.out)⟩⟩
        · rw [if_neg c10] at H
          exact absurd H (by simp)
      · rw [if_neg c9] at H
        have c9b0 : decide (x7_1 < (l0_1.length : Int)) = false := decide_eq_false c9
        clear c9
        obtain rfl := Option.some.inj H
        have hnb60 := NB219_224.out
        have hnc60 := NB224_219.out
        have hcz61_0 : wr.cell? ⟨gb219, 0, none⟩ = some (.int .i64 a0_0) := (blk_cell BK219.out 0).trans rfl
        have hcz61_1 : wr.cell? ⟨gb219, 1, none⟩ = some (.slice A0_1 l0_1.length c0_1) := (blk_cell BK219.out 1).trans rfl
        have hfz61_0 := blk_frozen BK219.out 0
        have hfz61_1 := blk_frozen BK219.out 1
        go_wp2
        go_ret
        exact ⟨by first | rfl | (simp [errW_none, errW_some] <;> rfl) | (simp [*, errW_none, errW_some] <;> rfl), by repeat (first | (with_reducible first | exact HB.out | apply below_alloc | apply pw_below_drewN | apply below_drew1 | refine below_set ?_ GE219.out | refine below_set ?_ GE224.out) | exact HB.out)⟩

end Go.Proofs.Ytoncignjcgjhhaa.Q
