/- Contracts and facts of functions of the program (calendar, dates and their documents), joined in one text by a program of this session. No condition but what each theorem states. -/
import Derived.Test.YtoncignjcgjhhaaTGA
import Derived.Test.YtoncignjcgjhhaaTGH
import Derived.Test.YtoncignjcgjhhaaTGI
import Derived.Test.YtoncignjcgjhhaaTGJ
set_option linter.unusedVariables false
set_option linter.unusedSimpArgs false
namespace Go.Proofs.Ytoncignjcgjhhaa.Q
open Go.RowKit Go.Proofs.YtoncignjcgjhhaaW.PrintWords Go.Proofs.YtoncignjcgjhhaaW.PrintLast Go.Proofs.YtoncignjcgjhhaaW.PrintMore
attribute [local go_sem] max2_int min2_int max_two min_two max_three min_three max_four min_four   -- for this text's walks alone
def tenorlaw8_awake.f (k : Nat)  : Option (Bool) := (sched_Dates.f k 45670 45898 3 3 1 0 0 0 0 ([] : List (S63))).bind fun bt751 => ((sched_Periods.f k 45670 45898 3 3 1 0 0 0 0 ([] : List (S63))).bind fun bt755 => (if bt751.2 = 0 then (if bt755.2 = 0 then ((tenorref8_SameInts.f k bt751.1 (([45670, 45714, 45806, 45898] : List Int))).bind fun t762 => (if t762 = true then (if (bt755.1.length : Int) = 3 then (if 2 < (bt755.1.length : Int) then (some (((rd_T81 bt755.1 2).f4) == 45898)) else (none)) else (some false)) else (some false))) else (some false)) else (some false)))
theorem tenorlaw8_awake.mono : ∀ k, LeO (tenorlaw8_awake.f k ) (tenorlaw8_awake.f (k + 1) ) := by
 intro  k
 unfold tenorlaw8_awake.f
 repeat' first
   | (with_reducible exact sched_Dates.mono _ _ _ _ _ _ _ _ _ _ _)
   | (with_reducible exact sched_Periods.mono _ _ _ _ _ _ _ _ _ _ _)
   | (with_reducible exact tenorref8_SameInts.mono _ _ _)
   | (with_reducible exact LeO.refl _)
   | (with_reducible exact LeO.none _)
   | (with_reducible refine LeO.ite ?_ ?_)
   | (with_reducible refine LeO.bind ?_ (fun _ => ?_))
   | exact sched_Dates.mono _ _ _ _ _ _ _ _ _ _ _
   | exact sched_Periods.mono _ _ _ _ _ _ _ _ _ _ _
   | exact tenorref8_SameInts.mono _ _ _
   | exact LeO.none _
   | refine LeO.ite ?_ ?_
   | refine LeO.bind ?_ (fun _ => ?_)
theorem tenorlaw8_awake.told (k : Nat) (r : Bool) (h : tenorlaw8_awake.f k = some r) : r = true := by
 have e : tenorlaw8_awake.f 40 = some true := by decide +kernel
 rcases Nat.le_total k 40 with hk | hk
 ·
  exact Option.some.inj ((at_rounds tenorlaw8_awake.mono hk h).symm.trans e)
 ·
  exact Option.some.inj (h.symm.trans (at_rounds tenorlaw8_awake.mono hk e))
set_option maxHeartbeats 8000000 in
set_option maxRecDepth 100000 in
theorem tenorlaw8_awake.calls (k : Nat)  (r : Bool) (w : World) (h : tenorlaw8_awake.f k  = some r) :
  Calls Try.prog 49 #[] w fun e w' => e = .returned (.bool r) ∧ Below w.heap.size w w' := by
 have hu66 := Try.underlying66
 have HB := Aside0.mk (Below.refl w.heap.size w)
 have H : ((sched_Dates.f k 45670 45898 3 3 1 0 0 0 0 ([] : List (S63))).bind fun bt751 => ((sched_Periods.f k 45670 45898 3 3 1 0 0 0 0 ([] : List (S63))).bind fun bt755 => (if bt751.2 = 0 then (if bt755.2 = 0 then ((tenorref8_SameInts.f k bt751.1 (([45670, 45714, 45806, 45898] : List Int))).bind fun t762 => (if t762 = true then (if (bt755.1.length : Int) = 3 then (if 2 < (bt755.1.length : Int) then (some (((rd_T81 bt755.1 2).f4) == 45898)) else (none)) else (some false)) else (some false))) else (some false)) else (some false)))) = some r := h
 have HT : r = true := tenorlaw8_awake.told k r h
 clear h;replace H := Option.bind_eq_some_iff.mp H
 obtain ⟨⟨t751, t754⟩, A10, H⟩ := H
 replace H : ((sched_Periods.f k 45670 45898 3 3 1 0 0 0 0 ([] : List (S63))).bind fun bt755 => (if t754 = 0 then (if bt755.2 = 0 then ((tenorref8_SameInts.f k t751 (([45670, 45714, 45806, 45898] : List Int))).bind fun t762 => (if t762 = true then (if (bt755.1.length : Int) = 3 then (if 2 < (bt755.1.length : Int) then (some (((rd_T81 bt755.1 2).f4) == 45898)) else (none)) else (some false)) else (some false))) else (some false)) else (some false))) = some r := H
 have A1 := Aside0.mk A10;clear A10;replace H := Option.bind_eq_some_iff.mp H
 obtain ⟨⟨t755, t758⟩, A20, H⟩ := H
 replace H : (if t754 = 0 then (if t758 = 0 then ((tenorref8_SameInts.f k t751 (([45670, 45714, 45806, 45898] : List Int))).bind fun t762 => (if t762 = true then (if (t755.length : Int) = 3 then (if 2 < (t755.length : Int) then (some (((rd_T81 t755 2).f4) == 45898)) else (none)) else (some false)) else (some false))) else (some false)) else (some false)) = some r := H
 have A2 := Aside0.mk A20;clear A20
 by_cases c3 : t754 = 0
 ·
  rw [if_pos c3] at H
  have c3b0 : (t754 == 0) = true := beq_iff_eq.mpr c3
  have c3b1 : (t754 != 0) = false := bne_eq_false_iff_eq.mpr c3
  clear c3
  by_cases c4 : t758 = 0
  ·
   rw [if_pos c4] at H
   have c4b0 : (t758 == 0) = true := beq_iff_eq.mpr c4
   have c4b1 : (t758 != 0) = false := bne_eq_false_iff_eq.mpr c4
   clear c4
   obtain ⟨y759, hy759⟩ : ∃ y_ : List Int, y_ = (([45670, 45714, 45806, 45898] : List Int)) := ⟨_, rfl⟩
   replace H : ((tenorref8_SameInts.f k t751 y759).bind fun t762 => (if t762 = true then (if (t755.length : Int) = 3 then (if 2 < (t755.length : Int) then (some (((rd_T81 t755 2).f4) == 45898)) else (none)) else (some false)) else (some false))) = some r := by first | (rw [hy759]; with_reducible exact H) | (have H2_ := (Option.bind_some _ _).symm.trans H; rw [hy759]; with_reducible exact H2_) | (have H2_ := (Option.bind_some _ _).symm.trans H; with_reducible exact H2_) | with_reducible exact H | (rw [hy759]; exact H) | exact H
   have Ny759 := Aside0.mk hy759;clear hy759;replace H := Option.bind_eq_some_iff.mp H
   obtain ⟨t762, A50, H⟩ := H
   replace H : (if t762 = true then (if (t755.length : Int) = 3 then (if 2 < (t755.length : Int) then (some (((rd_T81 t755 2).f4) == 45898)) else (none)) else (some false)) else (some false)) = some r := H
   have A5 := Aside0.mk A50;clear A50
   by_cases c6 : t762 = true
   ·
    subst c6
    have H1 : (if (t755.length : Int) = 3 then (if 2 < (t755.length : Int) then (some (((rd_T81 t755 2).f4) == 45898)) else (none)) else (some false)) = some r := by rw [if_pos rfl] at H; exact H
    clear H;have H := H1;clear H1
    by_cases c7 : (t755.length : Int) = 3
    ·
     rw [if_pos c7] at H
     have c7b0 : ((t755.length : Int) == 3) = true := beq_iff_eq.mpr c7
     have c7b1 : ((t755.length : Int) != 3) = false := bne_eq_false_iff_eq.mpr c7
     clear c7
     by_cases c8 : 2 < (t755.length : Int)
     ·
      rw [if_pos c8] at H
      have c8b0 : decide (2 < (t755.length : Int)) = true := decide_eq_true c8
      have c8b1 : decide (2 < t755.length) = true := decide_eq_true (by omega)
      clear c8
      obtain rfl := Option.some.inj H
      go_enter Try.func49, Try.ntmps49
      go_wp2_with (first | ((with_reducible refine gate_dst (N := 1) rfl ?_); (try (refine gate_guard (by rfl) ?_; dsimp only)); refine box_event ?hg (N := 1) ?hd (cs := #[.int .i64 0, .int .i64 0, .int .i64 0, .int .i64 0, .int .i64 0, .int .i64 0, .int .i64 0, .int .i64 0, .int .i64 0, .slice none 0 0]) (t := 66) ?hr ?_; (case hd => rfl); (case hg => rfl); (case hr => first | (go_simp; done) | (go_simp; rfl)); intro gb750 hg w9 hbox hb; have n0_ := Aside0.mk (below_step (by repeat (first | (with_reducible first | exact HB.out | apply below_alloc | apply pw_below_drewN | apply below_drew1) | exact HB.out)) hb); have n1_ := Aside0.mk (hbox); have n2_ := Aside0.mk ((by rw [hg]; exact (below_size (by repeat (first | (with_reducible first | exact HB.out | apply below_alloc | apply pw_below_drewN | apply below_drew1) | exact HB.out))) : w.heap.size ≤ gb750)); have n3_ := Aside0.mk ((by rw [hg]; exact (below_size (by repeat (first | (with_reducible first | exact HB.out | apply below_alloc | apply pw_below_drewN | apply below_drew1) | exact HB.out))) : w.heap.size ≤ gb750)); clear HB; have HB := n0_; have BK750 := n1_; have GW750 := n2_; have GE750 := n3_; clear n0_ n1_ n2_ n3_; clear hb hbox hg; have hcz10_0 : w9.cell? ⟨gb750, 0, none⟩ = some (.int .i64 0) := (blk_cell BK750.out 0).trans rfl; have hcz10_1 : w9.cell? ⟨gb750, 1, none⟩ = some (.int .i64 0) := (blk_cell BK750.out 1).trans rfl; have hcz10_2 : w9.cell? ⟨gb750, 2, none⟩ = some (.int .i64 0) := (blk_cell BK750.out 2).trans rfl; have hcz10_3 : w9.cell? ⟨gb750, 3, none⟩ = some (.int .i64 0) := (blk_cell BK750.out 3).trans rfl; have hcz10_4 : w9.cell? ⟨gb750, 4, none⟩ = some (.int .i64 0) := (blk_cell BK750.out 4).trans rfl; have hcz10_5 : w9.cell? ⟨gb750, 5, none⟩ = some (.int .i64 0) := (blk_cell BK750.out 5).trans rfl; have hcz10_6 : w9.cell? ⟨gb750, 6, none⟩ = some (.int .i64 0) := (blk_cell BK750.out 6).trans rfl; have hcz10_7 : w9.cell? ⟨gb750, 7, none⟩ = some (.int .i64 0) := (blk_cell BK750.out 7).trans rfl; have hcz10_8 : w9.cell? ⟨gb750, 8, none⟩ = some (.int .i64 0) := (blk_cell BK750.out 8).trans rfl; have hcz10_9 : w9.cell? ⟨gb750, 9, none⟩ = some (.slice none 0 0) := (blk_cell BK750.out 9).trans rfl; have hfz10_0 := blk_frozen BK750.out 0; have hfz10_1 := blk_frozen BK750.out 1; have hfz10_2 := blk_frozen BK750.out 2; have hfz10_3 := blk_frozen BK750.out 3; have hfz10_4 := blk_frozen BK750.out 4; have hfz10_5 := blk_frozen BK750.out 5; have hfz10_6 := blk_frozen BK750.out 6; have hfz10_7 := blk_frozen BK750.out 7; have hfz10_8 := blk_frozen BK750.out 8; have hfz10_9 := blk_frozen BK750.out 9) | ((with_reducible refine gate_callee (f := 50) rfl ?_); refine goesL_ (some 9) rfl rfl Try.func50 (by kernel_rfl) rfl #[.agg #[.int .i64 45670, .int .i64 45898, .int .i64 3, .int .i64 3, .int .i64 1, .int .i64 0, .int .i64 0, .int .i64 0, .int .i64 0, .slice none 0 0]] rfl (by (try simp only [List.map_toArray, List.map_cons, List.map_nil]); first | done | rfl | (simp only [List.length_drop, List.length_take]; rfl)) ?_; (refine (sched_Dates.calls k 45670 45898 3 3 1 0 0 0 0 _ _ ([] : List (S63)) t751 t754 _ ?side1 ?side2 A1.out).mono ?_); (case side1 => exact Kd.C_nil _ _); (case side2 => exact Nat.le_refl _); rintro e w11 ⟨v752, rfl, ho0, hb⟩; refine ⟨_, rfl, ?_⟩; have n0_ := Aside0.mk (Kd.R_lower ho0 (below_size (by repeat (first | (with_reducible first | exact HB.out | apply below_alloc | apply pw_below_drewN | apply below_drew1 | refine below_set ?_ GE750.out) | exact HB.out)))); have n1_ := Aside0.mk (blk_below (g := gb750) (o := .cells #[.int .i64 45670, .int .i64 45898, .int .i64 3, .int .i64 3, .int .i64 1, .int .i64 0, .int .i64 0, .int .i64 0, .int .i64 0, .slice none 0 0] 66 (0, 0)) (by (with_reducible repeat (first | refine blk_drewN ?_ _ | refine blk_drew ?_ | refine blk_alloc ?_ _)); refine blk_put (cs := #[.int .i64 45670, .int .i64 45898, .int .i64 3, .int .i64 3, .int .i64 1, .int .i64 0, .int .i64 0, .int .i64 0, .int .i64 0, .slice none 0 0]) ?_ 9 _ rfl; (with_reducible repeat (first | refine blk_drewN ?_ _ | refine blk_drew ?_ | refine blk_alloc ?_ _)); refine blk_put (cs := #[.int .i64 45670, .int .i64 45898, .int .i64 3, .int .i64 3, .int .i64 1, .int .i64 0, .int .i64 0, .int .i64 0, .int .i64 0, .slice none 0 0]) ?_ 8 _ rfl; (with_reducible repeat (first | refine blk_drewN ?_ _ | refine blk_drew ?_ | refine blk_alloc ?_ _)); refine blk_put (cs := #[.int .i64 45670, .int .i64 45898, .int .i64 3, .int .i64 3, .int .i64 1, .int .i64 0, .int .i64 0, .int .i64 0, .int .i64 0, .slice none 0 0]) ?_ 7 _ rfl; (with_reducible repeat (first | refine blk_drewN ?_ _ | refine blk_drew ?_ | refine blk_alloc ?_ _)); refine blk_put (cs := #[.int .i64 45670, .int .i64 45898, .int .i64 3, .int .i64 3, .int .i64 1, .int .i64 0, .int .i64 0, .int .i64 0, .int .i64 0, .slice none 0 0]) ?_ 6 _ rfl; (with_reducible repeat (first | refine blk_drewN ?_ _ | refine blk_drew ?_ | refine blk_alloc ?_ _)); refine blk_put (cs := #[.int .i64 45670, .int .i64 45898, .int .i64 3, .int .i64 3, .int .i64 1, .int .i64 0, .int .i64 0, .int .i64 0, .int .i64 0, .slice none 0 0]) ?_ 5 _ rfl; (with_reducible repeat (first | refine blk_drewN ?_ _ | refine blk_drew ?_ | refine blk_alloc ?_ _)); refine blk_put (cs := #[.int .i64 45670, .int .i64 45898, .int .i64 3, .int .i64 3, .int .i64 0, .int .i64 0, .int .i64 0, .int .i64 0, .int .i64 0, .slice none 0 0]) ?_ 4 _ rfl; (with_reducible repeat (first | refine blk_drewN ?_ _ | refine blk_drew ?_ | refine blk_alloc ?_ _)); refine blk_put (cs := #[.int .i64 45670, .int .i64 45898, .int .i64 3, .int .i64 0, .int .i64 0, .int .i64 0, .int .i64 0, .int .i64 0, .int .i64 0, .slice none 0 0]) ?_ 3 _ rfl; (with_reducible repeat (first | refine blk_drewN ?_ _ | refine blk_drew ?_ | refine blk_alloc ?_ _)); refine blk_put (cs := #[.int .i64 45670, .int .i64 45898, .int .i64 0, .int .i64 0, .int .i64 0, .int .i64 0, .int .i64 0, .int .i64 0, .int .i64 0, .slice none 0 0]) ?_ 2 _ rfl; (with_reducible repeat (first | refine blk_drewN ?_ _ | refine blk_drew ?_ | refine blk_alloc ?_ _)); refine blk_put (cs := #[.int .i64 45670, .int .i64 0, .int .i64 0, .int .i64 0, .int .i64 0, .int .i64 0, .int .i64 0, .int .i64 0, .int .i64 0, .slice none 0 0]) ?_ 1 _ rfl; (with_reducible repeat (first | refine blk_drewN ?_ _ | refine blk_drew ?_ | refine blk_alloc ?_ _)); refine blk_put (cs := #[.int .i64 0, .int .i64 0, .int .i64 0, .int .i64 0, .int .i64 0, .int .i64 0, .int .i64 0, .int .i64 0, .int .i64 0, .slice none 0 0]) ?_ 0 _ rfl; (with_reducible repeat (first | refine blk_drewN ?_ _ | refine blk_drew ?_ | refine blk_alloc ?_ _)); exact BK750.out) hb); have n2_ := Aside0.mk (below_step (by repeat (first | (with_reducible first | exact HB.out | apply below_alloc | apply pw_below_drewN | apply below_drew1 | refine below_set ?_ GE750.out) | exact HB.out)) hb); clear BK750; clear HB; have HO753 := n0_; have BK750 := n1_; have HB := n2_; clear n0_ n1_ n2_; (try clear hb); (try clear hb2); (try clear hk); (try clear hi); (try clear ho0); have hcz12_0 : w11.cell? ⟨gb750, 0, none⟩ = some (.int .i64 45670) := (blk_cell BK750.out 0).trans rfl; have hcz12_1 : w11.cell? ⟨gb750, 1, none⟩ = some (.int .i64 45898) := (blk_cell BK750.out 1).trans rfl; have hcz12_2 : w11.cell? ⟨gb750, 2, none⟩ = some (.int .i64 3) := (blk_cell BK750.out 2).trans rfl; have hcz12_3 : w11.cell? ⟨gb750, 3, none⟩ = some (.int .i64 3) := (blk_cell BK750.out 3).trans rfl; have hcz12_4 : w11.cell? ⟨gb750, 4, none⟩ = some (.int .i64 1) := (blk_cell BK750.out 4).trans rfl; have hcz12_5 : w11.cell? ⟨gb750, 5, none⟩ = some (.int .i64 0) := (blk_cell BK750.out 5).trans rfl; have hcz12_6 : w11.cell? ⟨gb750, 6, none⟩ = some (.int .i64 0) := (blk_cell BK750.out 6).trans rfl; have hcz12_7 : w11.cell? ⟨gb750, 7, none⟩ = some (.int .i64 0) := (blk_cell BK750.out 7).trans rfl; have hcz12_8 : w11.cell? ⟨gb750, 8, none⟩ = some (.int .i64 0) := (blk_cell BK750.out 8).trans rfl; have hcz12_9 : w11.cell? ⟨gb750, 9, none⟩ = some (.slice none 0 0) := (blk_cell BK750.out 9).trans rfl; have hfz12_0 := blk_frozen BK750.out 0; have hfz12_1 := blk_frozen BK750.out 1; have hfz12_2 := blk_frozen BK750.out 2; have hfz12_3 := blk_frozen BK750.out 3; have hfz12_4 := blk_frozen BK750.out 4; have hfz12_5 := blk_frozen BK750.out 5; have hfz12_6 := blk_frozen BK750.out 6; have hfz12_7 := blk_frozen BK750.out 7; have hfz12_8 := blk_frozen BK750.out 8; have hfz12_9 := blk_frozen BK750.out 9) | ((with_reducible refine gate_callee (f := 54) rfl ?_); refine goesL_ (some 14) rfl rfl Try.func54 (by kernel_rfl) rfl #[.agg #[.int .i64 45670, .int .i64 45898, .int .i64 3, .int .i64 3, .int .i64 1, .int .i64 0, .int .i64 0, .int .i64 0, .int .i64 0, .slice none 0 0]] rfl (by (try simp only [List.map_toArray, List.map_cons, List.map_nil]); first | done | rfl | (simp only [List.length_drop, List.length_take]; rfl)) ?_; (refine (sched_Periods.calls k 45670 45898 3 3 1 0 0 0 0 _ _ ([] : List (S63)) t755 t758 _ ?side1 ?side2 A2.out (beq_iff_eq.mp c4b0)).mono ?_); (case side1 => exact Kd.C_nil _ _); (case side2 => exact Nat.le_refl _); rintro e w13 ⟨v756, rfl, ho0, hb⟩; refine ⟨_, rfl, ?_⟩; have n0_ := Aside0.mk (Kd.R_below (by (with_reducible repeat (first | apply Kd.R_alloc | apply Kd.R_drewN | apply Kd.R_drew)); exact HO753.out) hb); have n1_ := Aside0.mk (Kd.R_lower ho0 (below_size (by repeat (first | (with_reducible first | exact HB.out | apply below_alloc | apply pw_below_drewN | apply below_drew1 | refine below_set ?_ GE750.out) | exact HB.out)))); have n2_ := Aside0.mk (blk_below (g := gb750) (o := .cells #[.int .i64 45670, .int .i64 45898, .int .i64 3, .int .i64 3, .int .i64 1, .int .i64 0, .int .i64 0, .int .i64 0, .int .i64 0, .slice none 0 0] 66 (0, 0)) (by (with_reducible repeat (first | refine blk_drewN ?_ _ | refine blk_drew ?_ | refine blk_alloc ?_ _)); exact BK750.out) hb); have n3_ := Aside0.mk (below_step (by repeat (first | (with_reducible first | exact HB.out | apply below_alloc | apply pw_below_drewN | apply below_drew1 | refine below_set ?_ GE750.out) | exact HB.out)) hb); clear HO753; clear BK750; clear HB; have HO753 := n0_; have HO757 := n1_; have BK750 := n2_; have HB := n3_; clear n0_ n1_ n2_ n3_; (try clear hb); (try clear hb2); (try clear hk); (try clear hi); (try clear ho0)) | ((with_reducible refine gate_dst (N := 25) rfl ?_); (try (refine gate_guard (by rfl) ?_; dsimp only)); refine Kd.R_lit (Kd.int .i64) _ 3 ?hg (N := 25) ?hd (xs := ([45670, 45714, 45806, 45898] : List Int)) (inner := [.int .i64 45670, .int .i64 45714, .int .i64 45806, .int .i64 45898]) (ok := fun _ => True) (okp := fun _ => True) ?hr ?hp (fun _ hk => hk) trivial (Below.refl _ _) (Nat.le_refl _) (by simp) ?_; (case hd => rfl); (case hg => rfl); (case hr => first | (go_simp; done) | (go_simp; rfl)); (case hp => exact (Reps.one (show Kd.M (Kd.int .i64) _ _ _ 45670 [.int .i64 45670] from rfl) (Reps.one (show Kd.M (Kd.int .i64) _ _ _ 45714 [.int .i64 45714] from rfl) (Reps.one (show Kd.M (Kd.int .i64) _ _ _ 45806 [.int .i64 45806] from rfl) (Reps.one (show Kd.M (Kd.int .i64) _ _ _ 45898 [.int .i64 45898] from rfl) (Reps.none _ _)))))); intro v760 w14 ho15 hb hg_ hnew_; clear hg_ hnew_; (first | rw [← Ny759.out] at ho15 | (simp only [Int.reduceToNat] at ho15; rw [← Ny759.out] at ho15)); have n0_ := Aside0.mk (Kd.R_elder' (by (with_reducible repeat (first | apply Kd.R_alloc | apply Kd.R_drewN | apply Kd.R_drew)); exact HO753.out) (Kd.R_base ho15) hb); have n1_ := Aside0.mk (Kd.R_below (by (with_reducible repeat (first | apply Kd.R_alloc | apply Kd.R_drewN | apply Kd.R_drew)); exact HO757.out) hb); have n2_ := Aside0.mk (Kd.R_lower (Kd.R_new' ho15 (Kd.R_lt (by (with_reducible repeat (first | apply Kd.R_alloc | apply Kd.R_drewN | apply Kd.R_drew)); exact HO753.out))) (below_size (by repeat (first | (with_reducible first | exact HB.out | apply below_alloc | apply pw_below_drewN | apply below_drew1 | refine below_set ?_ GE750.out) | exact HB.out)))); have n3_ := Aside0.mk (blk_below (g := gb750) (o := .cells #[.int .i64 45670, .int .i64 45898, .int .i64 3, .int .i64 3, .int .i64 1, .int .i64 0, .int .i64 0, .int .i64 0, .int .i64 0, .slice none 0 0] 66 (0, 0)) (by (with_reducible repeat (first | refine blk_drewN ?_ _ | refine blk_drew ?_ | refine blk_alloc ?_ _)); exact BK750.out) hb); have n4_ := Aside0.mk (below_step (by repeat (first | (with_reducible first | exact HB.out | apply below_alloc | apply pw_below_drewN | apply below_drew1 | refine below_set ?_ GE750.out) | exact HB.out)) hb); clear HO753; clear HO757; clear BK750; clear HB; have HO753 := n0_; have HO757 := n1_; have HO761 := n2_; have BK750 := n3_; have HB := n4_; clear n0_ n1_ n2_ n3_ n4_; clear hb ho15; obtain ⟨Ao16, co16, eo16⟩ := Kd.R_slice HO753.out; subst eo16; obtain ⟨Ao17, co17, eo17⟩ := Kd.R_slice HO761.out; subst eo17) | (go_at_call 52; (with_reducible refine (tenorref8_SameInts.calls k _ _ t751 _ _ y759 true _ ?side1 ?side2 ?side3 ?side4 A5.out).mono ?_); (case side1 => repeat (first | exact (Kd.R_reads' HO753.out).2.2 | (with_reducible refine Kd.C_alloc ?_ _) | (with_reducible refine Kd.C_drewN ?_ _) | (with_reducible refine Kd.C_drew ?_))); (case side2 => exact (Kd.R_reads' HO753.out).2.1); (case side3 => repeat (first | exact (Kd.R_reads' HO761.out).2.2 | (with_reducible refine Kd.C_alloc ?_ _) | (with_reducible refine Kd.C_drewN ?_ _) | (with_reducible refine Kd.C_drew ?_))); (case side4 => exact (Kd.R_reads' HO761.out).2.1); rintro e w' ⟨rfl, ⟨nd, rfl⟩⟩; obtain ⟨Ao18, co18, eo18⟩ := Kd.R_slice HO757.out; subst eo18; have p763 : 0 ≤ (2 : Int) := (by omega); have q763 : 2 < (t755.length : Int) := of_decide_eq_true (by first | (with_reducible assumption) | assumption); obtain ⟨ad763, e763, hx763_0, hx763_1, hx763_2, hx763_3, hx763_4⟩ := at_T81 (Kd.R_reads' HO757.out).2.2 2 p763 q763; cases e763; (try simp only [show (2 : Int).toNat = 2 from rfl, Nat.reduceMul, Nat.reduceEqDiff, Go.Addr.add, ↓reduceIte] at hx763_0); (try simp only [show (2 : Int).toNat = 2 from rfl, Nat.reduceMul, Nat.reduceEqDiff, Go.Addr.add, ↓reduceIte] at hx763_1); (try simp only [show (2 : Int).toNat = 2 from rfl, Nat.reduceMul, Nat.reduceEqDiff, Go.Addr.add, ↓reduceIte] at hx763_2); (try simp only [show (2 : Int).toNat = 2 from rfl, Nat.reduceMul, Nat.reduceEqDiff, Go.Addr.add, ↓reduceIte] at hx763_3); (try simp only [show (2 : Int).toNat = 2 from rfl, Nat.reduceMul, Nat.reduceEqDiff, Go.Addr.add, ↓reduceIte] at hx763_4); have qi763 : (2 < t755.length) = True := eq_true (by omega); (try rw [show ((2 : Int)).toNat = 2 from rfl] at hx763_0); (try rw [show 2 * 5 = 10 from rfl] at hx763_0); (try rw [show ((2 : Int)).toNat = 2 from rfl] at hx763_1); (try rw [show 2 * 5 = 10 from rfl] at hx763_1); (try rw [show ((2 : Int)).toNat = 2 from rfl] at hx763_2); (try rw [show 2 * 5 = 10 from rfl] at hx763_2); (try rw [show ((2 : Int)).toNat = 2 from rfl] at hx763_3); (try rw [show 2 * 5 = 10 from rfl] at hx763_3); (try rw [show ((2 : Int)).toNat = 2 from rfl] at hx763_4); (try rw [show 2 * 5 = 10 from rfl] at hx763_4); replace p763 := eq_true p763; replace q763 := eq_true q763))
      go_ret
      exact ⟨by first | rfl | (simp [errW_none, errW_some] <;> rfl) | (simp [*, errW_none, errW_some] <;> rfl), by repeat (first | (with_reducible first | exact HB.out | apply below_alloc | apply pw_below_drewN | apply below_drew1 | refine below_set ?_ GE750.out) | exact HB.out)⟩
     ·
      rw [if_neg c8] at H
      exact absurd H (by simp)
    ·
     rw [if_neg c7] at H
     have c7b0 : ((t755.length : Int) == 3) = false := beq_eq_false_iff_ne.mpr c7
     have c7b1 : ((t755.length : Int) != 3) = true := bne_iff_ne.mpr c7
     exact absurd (H.trans (congrArg some HT)) (by decide)
   ·
    replace c6 := Bool.eq_false_iff.mpr c6;subst c6
    have H1 : (some false) = some r := by rw [if_neg (show ¬ (false = true) by decide)] at H; exact H
    clear H;have H := H1;clear H1
    exact absurd (H.trans (congrArg some HT)) (by decide)
  ·
   rw [if_neg c4] at H
   have c4b0 : (t758 == 0) = false := beq_eq_false_iff_ne.mpr c4
   have c4b1 : (t758 != 0) = true := bne_iff_ne.mpr c4
   exact absurd (H.trans (congrArg some HT)) (by decide)
 ·
  rw [if_neg c3] at H
  have c3b0 : (t754 == 0) = false := beq_eq_false_iff_ne.mpr c3
  have c3b1 : (t754 != 0) = true := bne_iff_ne.mpr c3
  exact absurd (H.trans (congrArg some HT)) (by decide)
def tenorref8_in.f (a0 : Int) (a1 : Int) (a2 : Int) : Option (Bool) := if a0 ≥ a1 then (some (decide (a0 ≤ a2))) else (some false)
set_option maxHeartbeats 8000000 in
set_option maxRecDepth 100000 in
theorem tenorref8_in.calls (a0 : Int) (a1 : Int) (a2 : Int) (r : Bool) (w : World) (h : tenorref8_in.f a0 a1 a2 = some r) :
  Calls Try.prog 92 #[.int .i64 a0, .int .i64 a1, .int .i64 a2] w fun e w' => e = .returned (.bool r) ∧ Drawn0 w w' := by
 have H : (if a0 ≥ a1 then (some (decide (a0 ≤ a2))) else (some false)) = some r := h
 clear h
 by_cases c4 : a0 ≥ a1
 ·
  rw [if_pos c4] at H
  have c4b0 : decide (a1 ≤ a0) = true := decide_eq_true c4
  clear c4
  obtain rfl := Option.some.inj H
  go_enter Try.func92, Try.ntmps92
  go_wp2
  go_ret
  exact ⟨by first | rfl | (simp; done) | (simp [*]; done), by repeat (first | exact Drawn0.refl _ | apply Drawn0.step)⟩
 ·
  rw [if_neg c4] at H
  have c4b0 : decide (a1 ≤ a0) = false := decide_eq_false c4
  clear c4
  obtain rfl := Option.some.inj H
  go_enter Try.func92, Try.ntmps92
  go_wp2
  go_ret
  exact ⟨by first | rfl | (simp; done) | (simp [*]; done), by repeat (first | exact Drawn0.refl _ | apply Drawn0.step)⟩
end Go.Proofs.Ytoncignjcgjhhaa.Q
namespace Go.Proofs.Ytoncignjcgjhhaa.S
open Go.RowKit Go.Proofs.YtoncignjcgjhhaaW.PrintWords Go.Proofs.YtoncignjcgjhhaaW.PrintLast Go.Proofs.YtoncignjcgjhhaaW.PrintMore
open Go.Proofs.Ytoncignjcgjhhaa.Q
theorem awake8 : Ev (fun k => tenorlaw8_awake.f k) true := Ev.of (k := 40) (fun k => tenorlaw8_awake.mono k) (by decide +kernel)
end Go.Proofs.Ytoncignjcgjhhaa.S
