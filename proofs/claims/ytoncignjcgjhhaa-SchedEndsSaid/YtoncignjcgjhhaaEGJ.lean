/- Contracts and facts of functions of the program (calendar, dates and their documents), joined in one text by a program of this session. No condition but what each theorem states. -/
import Derived.Test.YtoncignjcgjhhaaEGA
import Derived.Test.YtoncignjcgjhhaaEGF
import Derived.Test.YtoncignjcgjhhaaEGI
set_option linter.unusedVariables false
set_option linter.unusedSimpArgs false
namespace Go.Proofs.Ytoncignjcgjhhaa.Q
open Go.RowKit Go.Proofs.YtoncignjcgjhhaaW.PrintWords Go.Proofs.YtoncignjcgjhhaaW.PrintLast Go.Proofs.YtoncignjcgjhhaaW.PrintMore
attribute [local go_sem] max2_int min2_int max_two min_two max_three min_three max_four min_four   -- for this text's walks alone
def tenorref8_SameInts.l0 : Nat → List Int → List Int → Int → Option (Bool)
  | 0, _, _, _ => none
  | k + 1, x0, x1, x5 => if x5 < (x0.length : Int) then (if 0 ≤ x5 then (if x5 < (x1.length : Int) then (if (rd x0 x5) = (rd x1 x5) then (tenorref8_SameInts.l0 k x0 x1 (wrap64 (x5 + 1))) else (some false)) else (none)) else (none)) else (some true)
def tenorref8_SameInts.f (k : Nat) (l0 : List Int) (l1 : List Int) : Option (Bool) := if (l0.length : Int) = (l1.length : Int) then (tenorref8_SameInts.l0 k l0 l1 0) else (some false)
theorem tenorref8_SameInts.mono_l : ∀ k, (∀ y0 y1 y2, LeO (tenorref8_SameInts.l0 k y0 y1 y2) (tenorref8_SameInts.l0 (k + 1) y0 y1 y2))
 | 0 => fun _ _ _ r h => by simp [tenorref8_SameInts.l0] at h
 | k + 1 => by
  have ih0 := tenorref8_SameInts.mono_l k
  ·
   intro y0 y1 y2
   unfold tenorref8_SameInts.l0
   repeat' first
   | (with_reducible exact ih0 _ _ _)
   | (with_reducible exact LeO.refl _)
   | (with_reducible exact LeO.none _)
   | (with_reducible refine LeO.ite ?_ ?_)
   | (with_reducible refine LeO.bind ?_ (fun _ => ?_))
   | exact ih0 _ _ _
   | exact LeO.none _
   | refine LeO.ite ?_ ?_
   | refine LeO.bind ?_ (fun _ => ?_)
theorem tenorref8_SameInts.mono : ∀ a0 a1 k, LeO (tenorref8_SameInts.f k a0 a1) (tenorref8_SameInts.f (k + 1) a0 a1) := by
 intro a0 a1 k
 have ih0 := tenorref8_SameInts.mono_l k
 unfold tenorref8_SameInts.f
 repeat' first
   | (with_reducible exact ih0 _ _ _)
   | (with_reducible exact LeO.refl _)
   | (with_reducible exact LeO.none _)
   | (with_reducible refine LeO.ite ?_ ?_)
   | (with_reducible refine LeO.bind ?_ (fun _ => ?_))
   | exact ih0 _ _ _
   | exact LeO.none _
   | refine LeO.ite ?_ ?_
   | refine LeO.bind ?_ (fun _ => ?_)
set_option maxHeartbeats 8000000 in
set_option maxRecDepth 100000 in
theorem tenorref8_SameInts.calls (k : Nat) (A0 : Option Addr) (c0 : Nat) (l0 : List Int) (A1 : Option Addr) (c1 : Nat) (l1 : List Int) (r : Bool) (w : World) (hr0 : Kd.C (Kd.int .i64) w A0 l0.length l0) (hc0 : l0.length ≤ c0) (hr1 : Kd.C (Kd.int .i64) w A1 l1.length l1) (hc1 : l1.length ≤ c1) (h : tenorref8_SameInts.f k l0 l1 = some r) :
  Calls Try.prog 52 #[.slice A0 l0.length c0, .slice A1 l1.length c1] w fun e w' => e = .returned (.bool r) ∧ Drawn0 w w' := by
 have HR0 := Aside0.mk hr0;have HC0 := Aside0.mk hc0;clear hr0 hc0;have HR1 := Aside0.mk hr1;have HC1 := Aside0.mk hc1;clear hr1 hc1
 have H : (if (l0.length : Int) = (l1.length : Int) then (tenorref8_SameInts.l0 k l0 l1 0) else (some false)) = some r := h
 clear h
 by_cases c3 : (l0.length : Int) = (l1.length : Int)
 ·
  rw [if_pos c3] at H
  have c3b0 : ((l0.length : Int) == (l1.length : Int)) = true := beq_iff_eq.mpr c3
  have c3b1 : ((l0.length : Int) != (l1.length : Int)) = false := bne_eq_false_iff_eq.mpr c3
  have c3b2 : (l0.length == l1.length) = true := by first | simpa using c3 | (simp at c3 ⊢; omega)
  clear c3;have H' := Aside0.mk H;clear H
  go_enter Try.func52, Try.ntmps52
  go_wp2
  repeat (go_quiet (fail); try go_wp2)
  go_loopg [5] k (fun kq v5 w' => ∃ (x5_1 : Int), v5 = .int .i64 x5_1 ∧ Aside0 (tenorref8_SameInts.l0 kq l0 l1 x5_1 = some r) ∧ Aside0 (kq ≤ k) ∧ Drawn0 w w')
  case atStart => exact ⟨(0), (by first | rfl | (simp; done) | (simp [*]; done)), H', ⟨Nat.le_refl _⟩, by repeat (first | exact Drawn0.refl _ | apply Drawn0.step)⟩
  case round =>
   clear H'
   obtain ⟨x5_1, rfl, HA, HK1, ⟨m1, rfl⟩⟩ := hrel
   cases gk with
   | zero => exact absurd HA.out (by simp [tenorref8_SameInts.l0])
   | succ k1 =>
    have H := HA.out;clear HA
    simp only [tenorref8_SameInts.l0] at H
    by_cases c4 : x5_1 < (l0.length : Int)
    ·
     rw [if_pos c4] at H
     have c4b0 : decide (x5_1 < (l0.length : Int)) = true := decide_eq_true c4
     clear c4
     by_cases c5 : 0 ≤ x5_1
     ·
      rw [if_pos c5] at H
      have c5b0 : decide (0 ≤ x5_1) = true := decide_eq_true c5
      clear c5
      by_cases c6 : x5_1 < (l1.length : Int)
      ·
       rw [if_pos c6] at H
       have c6b0 : decide (x5_1 < (l1.length : Int)) = true := decide_eq_true c6
       clear c6
       by_cases c7 : (rd l0 x5_1) = (rd l1 x5_1)
       ·
        rw [if_pos c7] at H
        have c7b0 : ((rd l0 x5_1) == (rd l1 x5_1)) = true := beq_iff_eq.mpr c7
        have c7b1 : ((rd l0 x5_1) != (rd l1 x5_1)) = false := bne_eq_false_iff_eq.mpr c7
        clear c7;have H' := Aside0.mk H;clear H
        have p748 : 0 ≤ (x5_1 : Int) := of_decide_eq_true (by first | (with_reducible assumption) | assumption)
        have q748 : x5_1 < (l0.length : Int) := of_decide_eq_true (by first | (with_reducible assumption) | assumption)
        obtain ⟨ad748, e748, hx748_0⟩ := Kd.at_int HR0.out x5_1 p748 q748
        cases e748
        replace p748 := eq_true p748;replace q748 := eq_true q748
        have p749 : 0 ≤ (x5_1 : Int) := of_decide_eq_true (by first | (with_reducible assumption) | assumption)
        have q749 : x5_1 < (l1.length : Int) := of_decide_eq_true (by first | (with_reducible assumption) | assumption)
        obtain ⟨ad749, e749, hx749_0⟩ := Kd.at_int HR1.out x5_1 p749 q749
        cases e749
        replace p749 := eq_true p749;replace q749 := eq_true q749
        go_wp2
        repeat (go_quiet (fail); try go_wp2)
        go_roundg k1
        case measure => have := HK1.out; omega
        case rel => exact ⟨(wrap64 (x5_1 + 1)), (by first | rfl | (simp; done) | (simp [*]; done)), H', ⟨by have := HK1.out; omega⟩, by repeat (first | exact Drawn0.refl _ | apply Drawn0.step)⟩
       ·
        rw [if_neg c7] at H
        have c7b0 : ((rd l0 x5_1) == (rd l1 x5_1)) = false := beq_eq_false_iff_ne.mpr c7
        have c7b1 : ((rd l0 x5_1) != (rd l1 x5_1)) = true := bne_iff_ne.mpr c7
        obtain rfl := Option.some.inj H
        have p748 : 0 ≤ (x5_1 : Int) := of_decide_eq_true (by first | (with_reducible assumption) | assumption)
        have q748 : x5_1 < (l0.length : Int) := of_decide_eq_true (by first | (with_reducible assumption) | assumption)
        obtain ⟨ad748, e748, hx748_0⟩ := Kd.at_int HR0.out x5_1 p748 q748
        cases e748
        replace p748 := eq_true p748;replace q748 := eq_true q748
        have p749 : 0 ≤ (x5_1 : Int) := of_decide_eq_true (by first | (with_reducible assumption) | assumption)
        have q749 : x5_1 < (l1.length : Int) := of_decide_eq_true (by first | (with_reducible assumption) | assumption)
        obtain ⟨ad749, e749, hx749_0⟩ := Kd.at_int HR1.out x5_1 p749 q749
        cases e749
        replace p749 := eq_true p749;replace q749 := eq_true q749
        go_wp2
        repeat (go_quiet (fail); try go_wp2)
        go_ret
        exact ⟨by first | rfl | (simp; done) | (simp [*]; done), by repeat (first | exact Drawn0.refl _ | apply Drawn0.step)⟩
      ·
       rw [if_neg c6] at H
       exact absurd H (by simp)
     ·
      rw [if_neg c5] at H
      exact absurd H (by simp)
    ·
     rw [if_neg c4] at H
     have c4b0 : decide (x5_1 < (l0.length : Int)) = false := decide_eq_false c4
     clear c4
     obtain rfl := Option.some.inj H
     go_wp2
     repeat (go_quiet (fail); try go_wp2)
     go_ret
     exact ⟨by first | rfl | (simp; done) | (simp [*]; done), by repeat (first | exact Drawn0.refl _ | apply Drawn0.step)⟩
 ·
  rw [if_neg c3] at H
  have c3b0 : ((l0.length : Int) == (l1.length : Int)) = false := beq_eq_false_iff_ne.mpr c3
  have c3b1 : ((l0.length : Int) != (l1.length : Int)) = true := bne_iff_ne.mpr c3
  have c3b2 : (l0.length == l1.length) = false := by first | simpa using c3 | (simp at c3 ⊢; omega)
  obtain rfl := Option.some.inj H
  go_enter Try.func52, Try.ntmps52
  go_wp2
  repeat (go_quiet (fail); try go_wp2)
  go_ret
  exact ⟨by first | rfl | (simp; done) | (simp [*]; done), by repeat (first | exact Drawn0.refl _ | apply Drawn0.step)⟩
end Go.Proofs.Ytoncignjcgjhhaa.Q
namespace Go.Proofs.Ytoncignjcgjhhaa.Q
open Go.RowKit Go.Proofs.YtoncignjcgjhhaaW.PrintWords Go.Proofs.YtoncignjcgjhhaaW.PrintLast Go.Proofs.YtoncignjcgjhhaaW.PrintMore
attribute [local go_sem] max2_int min2_int max_two min_two max_three min_three max_four min_four   -- for this text's walks alone
def tenorlaw8_awake.f (k : Nat)  : Option (Bool) := (sched_Dates.f k 45670 45898 3 3 1 0 0 0 0 ([] : List (S63))).bind fun bt751 => ((sched_Periods.f k 45670 45898 3 3 1 0 0 0 0 ([] : List (S63))).bind fun bt755 => (if bt751.2 = 0 then (if bt755.2 = 0 then ((tenorref8_SameInts.f k bt751.1 (([45670, 45714, 45806, 45898] : List Int))).bind fun t762 => (if t762 = true then (if (bt755.1.length : Int) = 3 then (if 2 < (bt755.1.length : Int) then (some (((rd_T81 bt755.1 2).f4) == 45898)) else (none)) else (some false)) else (some false))) else (some false)) else (some false)))
theorem tenorlaw8_awake.mono : ∀ k, LeO (tenorlaw8_awake.f k ) (tenorlaw8_awake.f (k + 1) ) := by
 intro  k
 unfold tenorlaw8_awake.f
 repeat' first
   | (with_reducible exact sched_Dates.mono _ _ _ _ _ _ _ _ _ _ _)
   | (with_reducible exact sched_Periods.mono _ _ _ _ _ _ _ _ _ _ _)
   | (with_reducible exact tenorref8_SameInts.mono _ _ _)
   | (with_reducible exact LeO.refl _)
   | (with_reducible exact LeO.none _)
   | (with_reducible refine LeO.ite ?_ ?_)
   | (with_reducible refine LeO.bind ?_ (fun _ => ?_))
   | exact sched_Dates.mono _ _ _ _ _ _ _ _ _ _ _
   | exact sched_Periods.mono _ _ _ _ _ _ _ _ _ _ _
   | exact tenorref8_SameInts.mono _ _ _
   | exact LeO.none _
   | refine LeO.ite ?_ ?_
   | refine LeO.bind ?_ (fun _ => ?_)
theorem tenorlaw8_awake.told (k : Nat) (r : Bool) (h : tenorlaw8_awake.f k = some r) : r = true := by
 have e : tenorlaw8_awake.f 40 = some true := by decide +kernel
 rcases Nat.le_total k 40 with hk | hk
 ·
  exact Option.some.inj ((at_rounds tenorlaw8_awake.mono hk h).symm.trans e)
 ·
  exact Option.some.inj (h.symm.trans (at_rounds tenorlaw8_awake.mono hk e))
set_option maxHeartbeats 8000000 in
set_option maxRecDepth 100000 in
theorem tenorlaw8_awake.calls (k : Nat)  (r : Bool) (w : World) (h : tenorlaw8_awake.f k  = some r) :
  Calls Try.prog 49 #[] w fun e w' => e = .returned (.bool r) ∧ Below w.heap.size w w' := by
 have hu66 := Try.underlying66
 have HB := Aside0.mk (Below.refl w.heap.size w)
 have H : ((sched_Dates.f k 45670 45898 3 3 1 0 0 0 0 ([] : List (S63))).bind fun bt751 => ((sched_Periods.f k 45670 45898 3 3 1 0 0 0 0 ([] : List (S63))).bind fun bt755 => (if bt751.2 = 0 then (if bt755.2 = 0 then ((tenorref8_SameInts.f k bt751.1 (([45670, 45714, 45806, 45898] : List Int))).bind fun t762 => (if t762 = true then (if (bt755.1.length : Int) = 3 then (if 2 < (bt755.1.length : Int) then (some (((rd_T81 bt755.1 2).f4) == 45898)) else (none)) else (some false)) else (some false))) else (some false)) else (some false)))) = some r := h
 have HT : r = true := tenorlaw8_awake.told k r h
 clear h;replace H := Option.bind_eq_some_iff.mp H
 obtain ⟨⟨t751, t754⟩, A10, H⟩ := H
 replace H : ((sched_Periods.f k 45670 45898 3 3 1 0 0 0 0 ([] : List (S63))).bind fun bt755 => (if t754 = 0 then (if bt755.2 = 0 then ((tenorref8_SameInts.f k t751 (([45670, 45714, 45806, 45898] : List Int))).bind fun t762 => (if t762 = true then (if (bt755.1.length : Int) = 3 then (if 2 < (bt755.1.length : Int) then (some (((rd_T81 bt755.1 2).f4) == 45898)) else (none)) else (some false)) else (some false))) else (some false)) else (some false))) = some r := H
 have A1 := Aside0.mk A10;clear A10;replace H := Option.bind_eq_some_iff.mp H
 obtain ⟨⟨t755, t758⟩, A20, H⟩ := H
 replace H : (if t754 = 0 then (if t758 = 0 then ((tenorref8_SameInts.f k t751 (([45670, 45714, 45806, 45898] : List Int))).bind fun t762 => (if t762 = true then (if (t755.length : Int) = 3 then (if 2 < (t755.length : Int) then (some (((rd_T81 t755 2).f4) == 45898)) else (none)) else (some false)) else (some false))) else (some false)) else (some false)) = some r := H
 have A2 := Aside0.mk A20;clear A20
 by_cases c3 : t754 = 0
 ·
  rw [if_pos c3] at H
  have c3b0 : (t754 == 0) = true := beq_iff_eq.mpr c3
  have c3b1 : (t754 != 0) = false := bne_eq_false_iff_eq.mpr c3
  clear c3
  by_cases c4 : t758 = 0
  ·
   rw [if_pos c4] at H
   have c4b0 : (t758 == 0) = true := beq_iff_eq.mpr c4
   have c4b1 : (t758 != 0) = false := bne_eq_false_iff_eq.mpr c4
   clear c4
   obtain ⟨y759, hy759⟩ : ∃ y_ : List Int, y_ = (([45670, 45714, 45806, 45898] : List Int)) := ⟨_, rfl⟩
   replace H : ((tenorref8_SameInts.f k t751 y759).bind fun t762 => (if t762 = true then (if (t755.length : Int) = 3 then (if 2 < (t755.length : Int) then (some (((rd_T81 t755 2).f4) == 45898)) else (none)) else (some false)) else (some false))) = some r := by first | (rw [hy759]; with_reducible exact H) | (have H2_ := (Option.bind_some _ _).symm.trans H; rw [hy759]; with_reducible exact H2_) | (have H2_ := (Option.bind_some _ _).symm.trans H; with_reducible exact H2_) | with_reducible exact H | (rw [hy759]; exact H) | exact H
   have Ny759 := Aside0.mk hy759;clear hy759;replace H := Option.bind_eq_some_iff.mp H
   obtain ⟨t762, A50, H⟩ := H
   replace H : (if t762 = true then (if (t755.length : Int) = 3 then (if 2 < (t755.length : Int) then (some (((rd_T81 t755 2).f4) == 45898)) else (none)) else (some false)) else (some false)) = some r := H
   have A5 := Aside0.mk A50;clear A50
   by_cases c6 : t762 = true
   ·
    subst c6
    have H1 : (if (t755.length : Int) = 3 then (if 2 < (t755.length : Int) then (some (((rd_T81 t755 2).f4) == 45898)) else (none)) else (some false)) = some r := by rw [if_pos rfl] at H; exact H
    clear H;have H := H1;clear H1
    by_cases c7 : (t755.length : Int) = 3
    ·
     rw [if_pos c7] at H
     have c7b0 : ((t755.length : Int) == 3) = true := beq_iff_eq.mpr c7
     have c7b1 : ((t755.length : Int) != 3) = false := bne_eq_false_iff_eq.mpr c7
     clear c7
     by_cases c8 : 2 < (t755.length : Int)
     ·
      rw [if_pos c8] at H
      have c8b0 : decide (2 < (t755.length : Int)) = true := decide_eq_true c8
      have c8b1 : decide (2 < t755.length) = true := decide_eq_true (by omega)
      clear c8
      obtain rfl := Option.some.inj H
      go_enter Try.func49, Try.ntmps49
      go_wp2_with (first | ((with_reducible refine gate_dst (N := 1) rfl ?_); (try (refine gate_guard (by rfl) ?_; dsimp only)); refine box_event ?hg (N := 1) ?hd (cs := #[.int .i64 0, .int .i64 0, .int .i64 0, .int .i64 0, .int .i64 0, .int .i64 0, .int .i64 0, .int .i64 0, .int .i64 0, .slice none 0 0]) (t := 66) ?hr ?_; (case hd => rfl); (case hg => rfl); (case hr => first | (go_simp; done) | (go_simp; rfl)); intro gb750 hg w9 hbox hb; have n0_ := Aside0.mk (below_step (by repeat (first | (with_reducible first | exact HB.out | apply below_alloc | apply pw_below_drewN | apply below_drew1) | exact HB.out)) hb); have n1_ := Aside0.mk (hbox); have n2_ := Aside0.mk ((by rw [hg]; exact (below_size (by repeat (first | (with_reducible first | exact HB.out | apply below_alloc | apply pw_below_drewN | apply below_drew1) | exact HB.out))) : w.heap.size ≤ gb750)); have n3_ := Aside0.mk ((by rw [hg]; exact (below_size (by repeat (first | (with_reducible first | exact HB.out | apply below_alloc | apply pw_below_drewN | apply below_drew1) | exact HB.out))) : w.heap.size ≤ gb750)); clear HB; have HB := n0_; have BK750 := n1_; have GW750 := n2_; have GE750 := n3_; clear n0_ n1_ n2_ n3_; clear hb hbox hg; have hcz10_0 : w9.cell? ⟨gb750, 0, none⟩ = some (.int .i64 0) := (blk_cell BK750.out 0).trans rfl; have hcz10_1 : w9.cell? ⟨gb750, 1, none⟩ = some (.int .i64 0) := (blk_cell BK750.out 1).trans rfl; have hcz10_2 : w9.cell? ⟨gb750, 2, none⟩ = some (.int .i64 0) := (blk_cell BK750.out 2).trans rfl; have hcz10_3 : w9.cell? ⟨gb750, 3, none⟩ = some (.int .i64 0) := (blk_cell BK750.out 3).trans rfl; have hcz10_4 : w9.cell? ⟨gb750, 4, none⟩ = some (.int .i64 0) := (blk_cell BK750.out 4).trans rfl; have hcz10_5 : w9.cell? ⟨gb750, 5, none⟩ = some (.int .i64 0) := (blk_cell BK750.out 5).trans rfl; have hcz10_6 : w9.cell? ⟨gb750, 6, none⟩ = some (.int .i64 0) := (blk_cell BK750.out 6).trans rfl; have hcz10_7 : w9.cell? ⟨gb750, 7, none⟩ = some (.int .i64 0) := (blk_cell BK750.out 7).trans rfl; have hcz10_8 : w9.cell? ⟨gb750, 8, none⟩ = some (.int .i64 0) := (blk_cell BK750.out 8).trans rfl; have hcz10_9 : w9.cell? ⟨gb750, 9, none⟩ = some (.slice none 0 0) := (blk_cell BK750.out 9).trans rfl; have hfz10_0 := blk_frozen BK750.out 0; have hfz10_1 := blk_frozen BK750.out 1; have hfz10_2 := blk_frozen BK750.out 2; have hfz10_3 := blk_frozen BK750.out 3; have hfz10_4 := blk_frozen BK750.out 4; have hfz10_5 := blk_frozen BK750.out 5; have hfz10_6 := blk_frozen BK750.out 6; have hfz10_7 := blk_frozen BK750.out 7; have hfz10_8 := blk_frozen BK750.out 8; have hfz10_9 := blk_frozen BK750.out 9) | ((with_reducible refine gate_callee (f := 50) rfl ?_); refine goesL_ (some 9) rfl rfl Try.func50 (by kernel_rfl) rfl #[.agg #[.int .i64 45670, .int .i64 45898, .int .i64 3, .int .i64 3, .int .i64 1, .int .i64 0, .int .i64 0, .int .i64 0, .int .i64 0, .slice none 0 0]] rfl (by (try simp only [List.map_toArray, List.map_cons, List.map_nil]); first | done | rfl | (simp only [List.length_drop, List.length_take]; rfl)) ?_; (refine (sched_Dates.calls k 45670 45898 3 3 1 0 0 0 0 _ _ ([] : List (S63)) t751 t754 _ ?side1 ?side2 A1.out).mono ?_); (case side1 => exact Kd.C_nil _ _); (case side2 => exact Nat.le_refl _); rintro e w11 ⟨v752, rfl, ho0, hb⟩; refine ⟨_, rfl, ?_⟩; have n0_ := Aside0.mk (Kd.R_lower ho0 (below_size (by repeat (first | (with_reducible first | exact HB.out | apply below_alloc | apply pw_below_drewN | apply below_drew1 | refine below_set ?_ GE750.out) | exact HB.out)))); have n1_ := Aside0.mk (blk_below (g := gb750) (o := .cells #[.int .i64 45670, .int .i64 45898, .int .i64 3, .int .i64 3, .int .i64 1, .int .i64 0, .int .i64 0, .int .i64 0, .int .i64 0, .slice none 0 0] 66 (0, 0)) (by (with_reducible repeat (first | refine blk_drewN ?_ _ | refine blk_drew ?_ | refine blk_alloc ?_ _)); refine blk_put (cs := #[.int .i64 45670, .int .i64 45898, .int .i64 3, .int .i64 3, .int .i64 1, .int .i64 0, .int .i64 0, .int .i64 0, .int .i64 0, .slice none 0 0]) ?_ 9 _ rfl; (with_reducible repeat (first | refine blk_drewN ?_ _ | refine blk_drew ?_ | refine blk_alloc ?_ _)); refine blk_put (cs := #[.int .i64 45670, .int .i64 45898, .int .i64 3, .int .i64 3, .int .i64 1, .int .i64 0, .int .i64 0, .int .i64 0, .int .i64 0, .slice none 0 0]) ?_ 8 _ rfl; (with_reducible repeat (first | refine blk_drewN ?_ _ | refine blk_drew ?_ | refine blk_alloc ?_ _)); refine blk_put (cs := #[.int .i64 45670, .int .i64 45898, .int .i64 3, .int .i64 3, .int .i64 1, .int .i64 0, .int .i64 0, .int .i64 0, .int .i64 0, .slice none 0 0]) ?_ 7 _ rfl; (with_reducible repeat (first | refine blk_drewN ?_ _ | refine blk_drew ?_ | refine blk_alloc ?_ _)); refine blk_put (cs := #[.int .i64 45670, .int .i64 45898, .int .i64 3, .int .i64 3, .int .i64 1, .int .i64 0, .int .i64 0, .int .i64 0, .int .i64 0, .slice none 0 0]) ?_ 6 _ rfl; (with_reducible repeat (first | refine blk_drewN ?_ _ | refine blk_drew ?_ | refine blk_alloc ?_ _)); refine blk_put (cs := #[.int .i64 45670, .int .i64 45898, .int .i64 3, .int .i64 3, .int .i64 1, .int .i64 0, .int .i64 0, .int .i64 0, .int .i64 0, .slice none 0 0]) ?_ 5 _ rfl; (with_reducible repeat (first | refine blk_drewN ?_ _ | refine blk_drew ?_ | refine blk_alloc ?_ _)); refine blk_put (cs := #[.int .i64 45670, .int .i64 45898, .int .i64 3, .int .i64 3, .int .i64 0, .int .i64 0, .int .i64 0, .int .i64 0, .int .i64 0, .slice none 0 0]) ?_ 4 _ rfl; (with_reducible repeat (first | refine blk_drewN ?_ _ | refine blk_drew ?_ | refine blk_alloc ?_ _)); refine blk_put (cs := #[.int .i64 45670, .int .i64 45898, .int .i64 3, .int .i64 0, .int .i64 0, .int .i64 0, .int .i64 0, .int .i64 0, .int .i64 0, .slice none 0 0]) ?_ 3 _ rfl; (with_reducible repeat (first | refine blk_drewN ?_ _ | refine blk_drew ?_ | refine blk_alloc ?_ _)); refine blk_put (cs := #[.int .i64 45670, .int .i64 45898, .int .i64 0, .int .i64 0, .int .i64 0, .int .i64 0, .int .i64 0, .int .i64 0, .int .i64 0, .slice none 0 0]) ?_ 2 _ rfl; (with_reducible repeat (first | refine blk_drewN ?_ _ | refine blk_drew ?_ | refine blk_alloc ?_ _)); refine blk_put (cs := #[.int .i64 45670, .int .i64 0, .int .i64 0, .int .i64 0, .int .i64 0, .int .i64 0, .int .i64 0, .int .i64 0, .int .i64 0, .slice none 0 0]) ?_ 1 _ rfl; (with_reducible repeat (first | refine blk_drewN ?_ _ | refine blk_drew ?_ | refine blk_alloc ?_ _)); refine blk_put (cs := #[.int .i64 0, .int .i64 0, .int .i64 0, .int .i64 0, .int .i64 0, .int .i64 0, .int .i64 0, .int .i64 0, .int .i64 0, .slice none 0 0]) ?_ 0 _ rfl; (with_reducible repeat (first | refine blk_drewN ?_ _ | refine blk_drew ?_ | refine blk_alloc ?_ _)); exact BK750.out) hb); have n2_ := Aside0.mk (below_step (by repeat (first | (with_reducible first | exact HB.out | apply below_alloc | apply pw_below_drewN | apply below_drew1 | refine below_set ?_ GE750.out) | exact HB.out)) hb); clear BK750; clear HB; have HO753 := n0_; have BK750 := n1_; have HB := n2_; clear n0_ n1_ n2_; (try clear hb); (try clear hb2); (try clear hk); (try clear hi); (try clear ho0); have hcz12_0 : w11.cell? ⟨gb750, 0, none⟩ = some (.int .i64 45670) := (blk_cell BK750.out 0).trans rfl; have hcz12_1 : w11.cell? ⟨gb750, 1, none⟩ = some (.int .i64 45898) := (blk_cell BK750.out 1).trans rfl; have hcz12_2 : w11.cell? ⟨gb750, 2, none⟩ = some (.int .i64 3) := (blk_cell BK750.out 2).trans rfl; have hcz12_3 : w11.cell? ⟨gb750, 3, none⟩ = some (.int .i64 3) := (blk_cell BK750.out 3).trans rfl; have hcz12_4 : w11.cell? ⟨gb750, 4, none⟩ = some (.int .i64 1) := (blk_cell BK750.out 4).trans rfl; have hcz12_5 : w11.cell? ⟨gb750, 5, none⟩ = some (.int .i64 0) := (blk_cell BK750.out 5).trans rfl; have hcz12_6 : w11.cell? ⟨gb750, 6, none⟩ = some (.int .i64 0) := (blk_cell BK750.out 6).trans rfl; have hcz12_7 : w11.cell? ⟨gb750, 7, none⟩ = some (.int .i64 0) := (blk_cell BK750.out 7).trans rfl; have hcz12_8 : w11.cell? ⟨gb750, 8, none⟩ = some (.int .i64 0) := (blk_cell BK750.out 8).trans rfl; have hcz12_9 : w11.cell? ⟨gb750, 9, none⟩ = some (.slice none 0 0) := (blk_cell BK750.out 9).trans rfl; have hfz12_0 := blk_frozen BK750.out 0; have hfz12_1 := blk_frozen BK750.out 1; have hfz12_2 := blk_frozen BK750.out 2; have hfz12_3 := blk_frozen BK750.out 3; have hfz12_4 := blk_frozen BK750.out 4; have hfz12_5 := blk_frozen BK750.out 5; have hfz12_6 := blk_frozen BK750.out 6; have hfz12_7 := blk_frozen BK750.out 7; have hfz12_8 := blk_frozen BK750.out 8; have hfz12_9 := blk_frozen BK750.out 9) | ((with_reducible refine gate_callee (f := 54) rfl ?_); refine goesL_ (some 14) rfl rfl Try.func54 (by kernel_rfl) rfl #[.agg #[.int .i64 45670, .int .i64 45898, .int .i64 3, .int .i64 3, .int .i64 1, .int .i64 0, .int .i64 0, .int .i64 0, .int .i64 0, .slice none 0 0]] rfl (by (try simp only [List.map_toArray, List.map_cons, List.map_nil]); first | done | rfl | (simp only [List.length_drop, List.length_take]; rfl)) ?_; (refine (sched_Periods.calls k 45670 45898 3 3 1 0 0 0 0 _ _ ([] : List (S63)) t755 t758 _ ?side1 ?side2 A2.out).mono ?_); (case side1 => exact Kd.C_nil _ _); (case side2 => exact Nat.le_refl _); rintro e w13 ⟨v756, rfl, ho0, hb⟩; refine ⟨_, rfl, ?_⟩; have n0_ := Aside0.mk (Kd.R_below (by (with_reducible repeat (first | apply Kd.R_alloc | apply Kd.R_drewN | apply Kd.R_drew)); exact HO753.out) hb); have n1_ := Aside0.mk (Kd.R_lower ho0 (below_size (by repeat (first | (with_reducible first | exact HB.out | apply below_alloc | apply pw_below_drewN | apply below_drew1 | refine below_set ?_ GE750.out) | exact HB.out)))); have n2_ := Aside0.mk (blk_below (g := gb750) (o := .cells #[.int .i64 45670, .int .i64 45898, .int .i64 3, .int .i64 3, .int .i64 1, .int .i64 0, .int .i64 0, .int .i64 0, .int .i64 0, .slice none 0 0] 66 (0, 0)) (by (with_reducible repeat (first | refine blk_drewN ?_ _ | refine blk_drew ?_ | refine blk_alloc ?_ _)); exact BK750.out) hb); have n3_ := Aside0.mk (below_step (by repeat (first | (with_reducible first | exact HB.out | apply below_alloc | apply pw_below_drewN | apply below_drew1 | refine below_set ?_ GE750.out) | exact HB.out)) hb); clear HO753; clear BK750; clear HB; have HO753 := n0_; have HO757 := n1_; have BK750 := n2_; have HB := n3_; clear n0_ n1_ n2_ n3_; (try clear hb); (try clear hb2); (try clear hk); (try clear hi); (try clear ho0)) | ((with_reducible refine gate_dst (N := 25) rfl ?_); (try (refine gate_guard (by rfl) ?_; dsimp only)); refine Kd.R_lit (Kd.int .i64) _ 3 ?hg (N := 25) ?hd (xs := ([45670, 45714, 45806, 45898] : List Int)) (inner := [.int .i64 45670, .int .i64 45714, .int .i64 45806, .int .i64 45898]) (ok := fun _ => True) (okp := fun _ => True) ?hr ?hp (fun _ hk => hk) trivial (Below.refl _ _) (Nat.le_refl _) (by simp) ?_; (case hd => rfl); (case hg => rfl); (case hr => first | (go_simp; done) | (go_simp; rfl)); (case hp => exact (Reps.one (show Kd.M (Kd.int .i64) _ _ _ 45670 [.int .i64 45670] from rfl) (Reps.one (show Kd.M (Kd.int .i64) _ _ _ 45714 [.int .i64 45714] from rfl) (Reps.one (show Kd.M (Kd.int .i64) _ _ _ 45806 [.int .i64 45806] from rfl) (Reps.one (show Kd.M (Kd.int .i64) _ _ _ 45898 [.int .i64 45898] from rfl) (Reps.none _ _)))))); intro v760 w14 ho15 hb hg_ hnew_; clear hg_ hnew_; (first | rw [← Ny759.out] at ho15 | (simp only [Int.reduceToNat] at ho15; rw [← Ny759.out] at ho15)); have n0_ := Aside0.mk (Kd.R_elder' (by (with_reducible repeat (first | apply Kd.R_alloc | apply Kd.R_drewN | apply Kd.R_drew)); exact HO753.out) (Kd.R_base ho15) hb); have n1_ := Aside0.mk (Kd.R_below (by (with_reducible repeat (first | apply Kd.R_alloc | apply Kd.R_drewN | apply Kd.R_drew)); exact HO757.out) hb); have n2_ := Aside0.mk (Kd.R_lower (Kd.R_new' ho15 (Kd.R_lt (by (with_reducible repeat (first | apply Kd.R_alloc | apply Kd.R_drewN | apply Kd.R_drew)); exact HO753.out))) (below_size (by repeat (first | (with_reducible first | exact HB.out | apply below_alloc | apply pw_below_drewN | apply below_drew1 | refine below_set ?_ GE750.out) | exact HB.out)))); have n3_ := Aside0.mk (blk_below (g := gb750) (o := .cells #[.int .i64 45670, .int .i64 45898, .int .i64 3, .int .i64 3, .int .i64 1, .int .i64 0, .int .i64 0, .int .i64 0, .int .i64 0, .slice none 0 0] 66 (0, 0)) (by (with_reducible repeat (first | refine blk_drewN ?_ _ | refine blk_drew ?_ | refine blk_alloc ?_ _)); exact BK750.out) hb); have n4_ := Aside0.mk (below_step (by repeat (first | (with_reducible first | exact HB.out | apply below_alloc | apply pw_below_drewN | apply below_drew1 | refine below_set ?_ GE750.out) | exact HB.out)) hb); clear HO753; clear HO757; clear BK750; clear HB; have HO753 := n0_; have HO757 := n1_; have HO761 := n2_; have BK750 := n3_; have HB := n4_; clear n0_ n1_ n2_ n3_ n4_; clear hb ho15; obtain ⟨Ao16, co16, eo16⟩ := Kd.R_slice HO753.out; subst eo16; obtain ⟨Ao17, co17, eo17⟩ := Kd.R_slice HO761.out; subst eo17) | (go_at_call 52; (with_reducible refine (tenorref8_SameInts.calls k _ _ t751 _ _ y759 true _ ?side1 ?side2 ?side3 ?side4 A5.out).mono ?_); (case side1 => repeat (first | exact (Kd.R_reads' HO753.out).2.2 | (with_reducible refine Kd.C_alloc ?_ _) | (with_reducible refine Kd.C_drewN ?_ _) | (with_reducible refine Kd.C_drew ?_))); (case side2 => exact (Kd.R_reads' HO753.out).2.1); (case side3 => repeat (first | exact (Kd.R_reads' HO761.out).2.2 | (with_reducible refine Kd.C_alloc ?_ _) | (with_reducible refine Kd.C_drewN ?_ _) | (with_reducible refine Kd.C_drew ?_))); (case side4 => exact (Kd.R_reads' HO761.out).2.1); rintro e w' ⟨rfl, ⟨nd, rfl⟩⟩; obtain ⟨Ao18, co18, eo18⟩ := Kd.R_slice HO757.out; subst eo18; have p763 : 0 ≤ (2 : Int) := (by omega); have q763 : 2 < (t755.length : Int) := of_decide_eq_true (by first | (with_reducible assumption) | assumption); obtain ⟨ad763, e763, hx763_0, hx763_1, hx763_2, hx763_3, hx763_4⟩ := at_T81 (Kd.R_reads' HO757.out).2.2 2 p763 q763; cases e763; (try simp only [show (2 : Int).toNat = 2 from rfl, Nat.reduceMul, Nat.reduceEqDiff, Go.Addr.add, ↓reduceIte] at hx763_0); (try simp only [show (2 : Int).toNat = 2 from rfl, Nat.reduceMul, Nat.reduceEqDiff, Go.Addr.add, ↓reduceIte] at hx763_1); (try simp only [show (2 : Int).toNat = 2 from rfl, Nat.reduceMul, Nat.reduceEqDiff, Go.Addr.add, ↓reduceIte] at hx763_2); (try simp only [show (2 : Int).toNat = 2 from rfl, Nat.reduceMul, Nat.reduceEqDiff, Go.Addr.add, ↓reduceIte] at hx763_3); (try simp only [show (2 : Int).toNat = 2 from rfl, Nat.reduceMul, Nat.reduceEqDiff, Go.Addr.add, ↓reduceIte] at hx763_4); have qi763 : (2 < t755.length) = True := eq_true (by omega); (try rw [show ((2 : Int)).toNat = 2 from rfl] at hx763_0); (try rw [show 2 * 5 = 10 from rfl] at hx763_0); (try rw [show ((2 : Int)).toNat = 2 from rfl] at hx763_1); (try rw [show 2 * 5 = 10 from rfl] at hx763_1); (try rw [show ((2 : Int)).toNat = 2 from rfl] at hx763_2); (try rw [show 2 * 5 = 10 from rfl] at hx763_2); (try rw [show ((2 : Int)).toNat = 2 from rfl] at hx763_3); (try rw [show 2 * 5 = 10 from rfl] at hx763_3); (try rw [show ((2 : Int)).toNat = 2 from rfl] at hx763_4); (try rw [show 2 * 5 = 10 from rfl] at hx763_4); replace p763 := eq_true p763; replace q763 := eq_true q763))
      go_ret
      exact ⟨by first | rfl | (simp [errW_none, errW_some] <;> rfl) | (simp [*, errW_none, errW_some] <;> rfl), by repeat (first | (with_reducible first | exact HB.out | apply below_alloc | apply pw_below_drewN | apply below_drew1 | refine below_set ?_ GE750.out) | exact HB.out)⟩
     ·
      rw [if_neg c8] at H
      exact absurd H (by simp)
    ·
     rw [if_neg c7] at H
     have c7b0 : ((t755.length : Int) == 3) = false := beq_eq_false_iff_ne.mpr c7
     have c7b1 : ((t755.length : Int) != 3) = true := bne_iff_ne.mpr c7
     exact absurd (H.trans (congrArg some HT)) (by decide)
   ·
    replace c6 := Bool.eq_false_iff.mpr c6;subst c6
    have H1 : (some false) = some r := by rw [if_neg (show ¬ (false = true) by decide)] at H; exact H
    clear H;have H := H1;clear H1
    exact absurd (H.trans (congrArg some HT)) (by decide)
  ·
   rw [if_neg c4] at H
   have c4b0 : (t758 == 0) = false := beq_eq_false_iff_ne.mpr c4
   have c4b1 : (t758 != 0) = true := bne_iff_ne.mpr c4
   exact absurd (H.trans (congrArg some HT)) (by decide)
 ·
  rw [if_neg c3] at H
  have c3b0 : (t754 == 0) = false := beq_eq_false_iff_ne.mpr c3
  have c3b1 : (t754 != 0) = true := bne_iff_ne.mpr c3
  exact absurd (H.trans (congrArg some HT)) (by decide)
end Go.Proofs.Ytoncignjcgjhhaa.Q
namespace Go.Proofs.Ytoncignjcgjhhaa.Q
open Go.RowKit Go.Proofs.YtoncignjcgjhhaaW.PrintWords Go.Proofs.YtoncignjcgjhhaaW.PrintLast Go.Proofs.YtoncignjcgjhhaaW.PrintMore
attribute [local go_sem] max2_int min2_int max_two min_two max_three min_three max_four min_four   -- for this text's walks alone
def tenorlaw8_small.j0 : Nat → Bool → Int → Int → Int → Int → Int → Int → Int → Int → Int → List (S63) → Option (Bool)
  | 0, _, _, _, _, _, _, _, _, _, _, _ => none
  | k + 1, x35, x854000, x854001, x854002, x854003, x854004, x854005, x854006, x854007, x854008, x854009 => if x35 = true then (some true) else (if x854003 = 2 then (some (decide ((wrap64 (Int.tdiv (wrap64 (x854001 - x854000)) 7)) ≤ (wrap64 (60 * (mn x854002 2000)))))) else (if x854003 = 3 then (some (decide ((wrap64 (Int.tdiv (wrap64 (x854001 - x854000)) 28)) ≤ (wrap64 (60 * (mn x854002 2000)))))) else (if x854003 = 4 then (some (decide ((wrap64 (Int.tdiv (wrap64 (x854001 - x854000)) 365)) ≤ (wrap64 (60 * (mn x854002 2000)))))) else (some (decide ((wrap64 (Int.tdiv (wrap64 (x854001 - x854000)) 1)) ≤ (wrap64 (60 * (mn x854002 2000)))))))))
def tenorlaw8_small.f (k : Nat) (a0_0 : Int) (a0_1 : Int) (a0_2 : Int) (a0_3 : Int) (a0_4 : Int) (a0_5 : Int) (a0_6 : Int) (a0_7 : Int) (a0_8 : Int) (l0_9 : List (S63)) : Option (Bool) := if (l0_9.length : Int) > 8 then (some false) else (if (l0_9.length : Int) = 0 then (tenorlaw8_small.j0 k true a0_0 a0_1 a0_2 a0_3 a0_4 a0_5 a0_6 a0_7 a0_8 l0_9) else (if a0_2 < 1 then (tenorlaw8_small.j0 k true a0_0 a0_1 a0_2 a0_3 a0_4 a0_5 a0_6 a0_7 a0_8 l0_9) else (if a0_0 < 0 then (tenorlaw8_small.j0 k true a0_0 a0_1 a0_2 a0_3 a0_4 a0_5 a0_6 a0_7 a0_8 l0_9) else (if a0_1 > 109572 then (tenorlaw8_small.j0 k true a0_0 a0_1 a0_2 a0_3 a0_4 a0_5 a0_6 a0_7 a0_8 l0_9) else (tenorlaw8_small.j0 k (decide (a0_0 > a0_1)) a0_0 a0_1 a0_2 a0_3 a0_4 a0_5 a0_6 a0_7 a0_8 l0_9)))))
theorem tenorlaw8_small.mono_l : ∀ k, (∀ y0 y1 y2 y3 y4 y5 y6 y7 y8 y9 y10, LeO (tenorlaw8_small.j0 k y0 y1 y2 y3 y4 y5 y6 y7 y8 y9 y10) (tenorlaw8_small.j0 (k + 1) y0 y1 y2 y3 y4 y5 y6 y7 y8 y9 y10))
 | 0 => fun _ _ _ _ _ _ _ _ _ _ _ r h => by simp [tenorlaw8_small.j0] at h
 | k + 1 => by
  have ih0 := tenorlaw8_small.mono_l k
  ·
   intro y0 y1 y2 y3 y4 y5 y6 y7 y8 y9 y10
   unfold tenorlaw8_small.j0
   repeat' first
   | (with_reducible exact ih0 _ _ _ _ _ _ _ _ _ _ _)
   | (with_reducible exact LeO.refl _)
   | (with_reducible exact LeO.none _)
   | (with_reducible refine LeO.ite ?_ ?_)
   | (with_reducible refine LeO.bind ?_ (fun _ => ?_))
   | exact ih0 _ _ _ _ _ _ _ _ _ _ _
   | exact LeO.none _
   | refine LeO.ite ?_ ?_
   | refine LeO.bind ?_ (fun _ => ?_)
theorem tenorlaw8_small.mono : ∀ a0 a1 a2 a3 a4 a5 a6 a7 a8 a9 k, LeO (tenorlaw8_small.f k a0 a1 a2 a3 a4 a5 a6 a7 a8 a9) (tenorlaw8_small.f (k + 1) a0 a1 a2 a3 a4 a5 a6 a7 a8 a9) := by
 intro a0 a1 a2 a3 a4 a5 a6 a7 a8 a9 k
 have ih0 := tenorlaw8_small.mono_l k
 unfold tenorlaw8_small.f
 repeat' first
   | (with_reducible exact ih0 _ _ _ _ _ _ _ _ _ _ _)
   | (with_reducible exact LeO.refl _)
   | (with_reducible exact LeO.none _)
   | (with_reducible refine LeO.ite ?_ ?_)
   | (with_reducible refine LeO.bind ?_ (fun _ => ?_))
   | exact ih0 _ _ _ _ _ _ _ _ _ _ _
   | exact LeO.none _
   | refine LeO.ite ?_ ?_
   | refine LeO.bind ?_ (fun _ => ?_)
set_option maxHeartbeats 8000000 in
set_option maxRecDepth 100000 in
theorem tenorlaw8_small.calls (k : Nat) (a0_0 : Int) (a0_1 : Int) (a0_2 : Int) (a0_3 : Int) (a0_4 : Int) (a0_5 : Int) (a0_6 : Int) (a0_7 : Int) (a0_8 : Int) (A0_9 : Option Addr) (c0_9 : Nat) (l0_9 : List (S63)) (r : Bool) (w : World) (hr0_9 : Kd.C k63 w A0_9 l0_9.length l0_9) (hc0_9 : l0_9.length ≤ c0_9) (h : tenorlaw8_small.f k a0_0 a0_1 a0_2 a0_3 a0_4 a0_5 a0_6 a0_7 a0_8 l0_9 = some r) :
  Calls Try.prog 53 #[.agg #[.int .i64 a0_0, .int .i64 a0_1, .int .i64 a0_2, .int .i64 a0_3, .int .i64 a0_4, .int .i64 a0_5, .int .i64 a0_6, .int .i64 a0_7, .int .i64 a0_8, .slice A0_9 l0_9.length c0_9]] w fun e w' => e = .returned (.bool r) ∧ Below w.heap.size w w' := by
 have hu66 := Try.underlying66;have HR0_9 := Aside0.mk hr0_9;have HC0_9 := Aside0.mk hc0_9;clear hr0_9 hc0_9
 have HB := Aside0.mk (Below.refl w.heap.size w)
 have H : (if (l0_9.length : Int) > 8 then (some false) else (if (l0_9.length : Int) = 0 then (tenorlaw8_small.j0 k true a0_0 a0_1 a0_2 a0_3 a0_4 a0_5 a0_6 a0_7 a0_8 l0_9) else (if a0_2 < 1 then (tenorlaw8_small.j0 k true a0_0 a0_1 a0_2 a0_3 a0_4 a0_5 a0_6 a0_7 a0_8 l0_9) else (if a0_0 < 0 then (tenorlaw8_small.j0 k true a0_0 a0_1 a0_2 a0_3 a0_4 a0_5 a0_6 a0_7 a0_8 l0_9) else (if a0_1 > 109572 then (tenorlaw8_small.j0 k true a0_0 a0_1 a0_2 a0_3 a0_4 a0_5 a0_6 a0_7 a0_8 l0_9) else (tenorlaw8_small.j0 k (decide (a0_0 > a0_1)) a0_0 a0_1 a0_2 a0_3 a0_4 a0_5 a0_6 a0_7 a0_8 l0_9)))))) = some r := h
 clear h
 by_cases c2 : (l0_9.length : Int) > 8
 ·
  rw [if_pos c2] at H
  have c2b0 : decide (8 < (l0_9.length : Int)) = true := decide_eq_true c2
  have c2b1 : decide (8 < l0_9.length) = true := decide_eq_true (by omega)
  clear c2
  obtain rfl := Option.some.inj H
  go_enter Try.func53, Try.ntmps53
  go_wp2_with (first | ((with_reducible refine gate_dst (N := 1) rfl ?_); refine box_event ?hg (N := 1) ?hd (cs := #[.int .i64 a0_0, .int .i64 a0_1, .int .i64 a0_2, .int .i64 a0_3, .int .i64 a0_4, .int .i64 a0_5, .int .i64 a0_6, .int .i64 a0_7, .int .i64 a0_8, .slice A0_9 l0_9.length c0_9]) (t := 66) ?hr ?_; (case hd => rfl); (case hg => rfl); (case hr => first | (go_simp; done) | (go_simp; rfl)); intro gb853 hg w3 hbox hb; have n0_ := Aside0.mk (below_step (by repeat (first | (with_reducible first | exact HB.out | apply below_alloc | apply pw_below_drewN | apply below_drew1) | exact HB.out)) hb); have n1_ := Aside0.mk (hbox); have n2_ := Aside0.mk ((by rw [hg]; exact (below_size (by repeat (first | (with_reducible first | exact HB.out | apply below_alloc | apply pw_below_drewN | apply below_drew1) | exact HB.out))) : w.heap.size ≤ gb853)); have n3_ := Aside0.mk ((by rw [hg]; exact (below_size (by repeat (first | (with_reducible first | exact HB.out | apply below_alloc | apply pw_below_drewN | apply below_drew1) | exact HB.out))) : w.heap.size ≤ gb853)); clear HB; have HB := n0_; have BK853 := n1_; have GW853 := n2_; have GE853 := n3_; clear n0_ n1_ n2_ n3_; clear hb hbox hg; have hcz4_0 : w3.cell? ⟨gb853, 0, none⟩ = some (.int .i64 a0_0) := (blk_cell BK853.out 0).trans rfl; have hcz4_1 : w3.cell? ⟨gb853, 1, none⟩ = some (.int .i64 a0_1) := (blk_cell BK853.out 1).trans rfl; have hcz4_2 : w3.cell? ⟨gb853, 2, none⟩ = some (.int .i64 a0_2) := (blk_cell BK853.out 2).trans rfl; have hcz4_3 : w3.cell? ⟨gb853, 3, none⟩ = some (.int .i64 a0_3) := (blk_cell BK853.out 3).trans rfl; have hcz4_4 : w3.cell? ⟨gb853, 4, none⟩ = some (.int .i64 a0_4) := (blk_cell BK853.out 4).trans rfl; have hcz4_5 : w3.cell? ⟨gb853, 5, none⟩ = some (.int .i64 a0_5) := (blk_cell BK853.out 5).trans rfl; have hcz4_6 : w3.cell? ⟨gb853, 6, none⟩ = some (.int .i64 a0_6) := (blk_cell BK853.out 6).trans rfl; have hcz4_7 : w3.cell? ⟨gb853, 7, none⟩ = some (.int .i64 a0_7) := (blk_cell BK853.out 7).trans rfl; have hcz4_8 : w3.cell? ⟨gb853, 8, none⟩ = some (.int .i64 a0_8) := (blk_cell BK853.out 8).trans rfl; have hcz4_9 : w3.cell? ⟨gb853, 9, none⟩ = some (.slice A0_9 l0_9.length c0_9) := (blk_cell BK853.out 9).trans rfl; have hfz4_0 := blk_frozen BK853.out 0; have hfz4_1 := blk_frozen BK853.out 1; have hfz4_2 := blk_frozen BK853.out 2; have hfz4_3 := blk_frozen BK853.out 3; have hfz4_4 := blk_frozen BK853.out 4; have hfz4_5 := blk_frozen BK853.out 5; have hfz4_6 := blk_frozen BK853.out 6; have hfz4_7 := blk_frozen BK853.out 7; have hfz4_8 := blk_frozen BK853.out 8; have hfz4_9 := blk_frozen BK853.out 9))
  repeat (go_quiet (first | ((with_reducible refine gate_dst (N := 1) rfl ?_); refine box_event ?hg (N := 1) ?hd (cs := #[.int .i64 a0_0, .int .i64 a0_1, .int .i64 a0_2, .int .i64 a0_3, .int .i64 a0_4, .int .i64 a0_5, .int .i64 a0_6, .int .i64 a0_7, .int .i64 a0_8, .slice A0_9 l0_9.length c0_9]) (t := 66) ?hr ?_; (case hd => rfl); (case hg => rfl); (case hr => first | (go_simp; done) | (go_simp; rfl)); intro gb853 hg w3 hbox hb; have n0_ := Aside0.mk (below_step (by repeat (first | (with_reducible first | exact HB.out | apply below_alloc | apply pw_below_drewN | apply below_drew1) | exact HB.out)) hb); have n1_ := Aside0.mk (hbox); have n2_ := Aside0.mk ((by rw [hg]; exact (below_size (by repeat (first | (with_reducible first | exact HB.out | apply below_alloc | apply pw_below_drewN | apply below_drew1) | exact HB.out))) : w.heap.size ≤ gb853)); have n3_ := Aside0.mk ((by rw [hg]; exact (below_size (by repeat (first | (with_reducible first | exact HB.out | apply below_alloc | apply pw_below_drewN | apply below_drew1) | exact HB.out))) : w.heap.size ≤ gb853)); clear HB; have HB := n0_; have BK853 := n1_; have GW853 := n2_; have GE853 := n3_; clear n0_ n1_ n2_ n3_; clear hb hbox hg; have hcz4_0 : w3.cell? ⟨gb853, 0, none⟩ = some (.int .i64 a0_0) := (blk_cell BK853.out 0).trans rfl; have hcz4_1 : w3.cell? ⟨gb853, 1, none⟩ = some (.int .i64 a0_1) := (blk_cell BK853.out 1).trans rfl; have hcz4_2 : w3.cell? ⟨gb853, 2, none⟩ = some (.int .i64 a0_2) := (blk_cell BK853.out 2).trans rfl; have hcz4_3 : w3.cell? ⟨gb853, 3, none⟩ = some (.int .i64 a0_3) := (blk_cell BK853.out 3).trans rfl; have hcz4_4 : w3.cell? ⟨gb853, 4, none⟩ = some (.int .i64 a0_4) := (blk_cell BK853.out 4).trans rfl; have hcz4_5 : w3.cell? ⟨gb853, 5, none⟩ = some (.int .i64 a0_5) := (blk_cell BK853.out 5).trans rfl; have hcz4_6 : w3.cell? ⟨gb853, 6, none⟩ = some (.int .i64 a0_6) := (blk_cell BK853.out 6).trans rfl; have hcz4_7 : w3.cell? ⟨gb853, 7, none⟩ = some (.int .i64 a0_7) := (blk_cell BK853.out 7).trans rfl; have hcz4_8 : w3.cell? ⟨gb853, 8, none⟩ = some (.int .i64 a0_8) := (blk_cell BK853.out 8).trans rfl; have hcz4_9 : w3.cell? ⟨gb853, 9, none⟩ = some (.slice A0_9 l0_9.length c0_9) := (blk_cell BK853.out 9).trans rfl; have hfz4_0 := blk_frozen BK853.out 0; have hfz4_1 := blk_frozen BK853.out 1; have hfz4_2 := blk_frozen BK853.out 2; have hfz4_3 := blk_frozen BK853.out 3; have hfz4_4 := blk_frozen BK853.out 4; have hfz4_5 := blk_frozen BK853.out 5; have hfz4_6 := blk_frozen BK853.out 6; have hfz4_7 := blk_frozen BK853.out 7; have hfz4_8 := blk_frozen BK853.out 8; have hfz4_9 := blk_frozen BK853.out 9)); try go_wp2_with (first | ((with_reducible refine gate_dst (N := 1) rfl ?_); refine box_event ?hg (N := 1) ?hd (cs := #[.int .i64 a0_0, .int .i64 a0_1, .int .i64 a0_2, .int .i64 a0_3, .int .i64 a0_4, .int .i64 a0_5, .int .i64 a0_6, .int .i64 a0_7, .int .i64 a0_8, .slice A0_9 l0_9.length c0_9]) (t := 66) ?hr ?_; (case hd => rfl); (case hg => rfl); (case hr => first | (go_simp; done) | (go_simp; rfl)); intro gb853 hg w3 hbox hb; have n0_ := Aside0.mk (below_step (by repeat (first | (with_reducible first | exact HB.out | apply below_alloc | apply pw_below_drewN | apply below_drew1) | exact HB.out)) hb); have n1_ := Aside0.mk (hbox); have n2_ := Aside0.mk ((by rw [hg]; exact (below_size (by repeat (first | (with_reducible first | exact HB.out | apply below_alloc | apply pw_below_drewN | apply below_drew1) | exact HB.out))) : w.heap.size ≤ gb853)); have n3_ := Aside0.mk ((by rw [hg]; exact (below_size (by repeat (first | (with_reducible first | exact HB.out | apply below_alloc | apply pw_below_drewN | apply below_drew1) | exact HB.out))) : w.heap.size ≤ gb853)); clear HB; have HB := n0_; have BK853 := n1_; have GW853 := n2_; have GE853 := n3_; clear n0_ n1_ n2_ n3_; clear hb hbox hg; have hcz4_0 : w3.cell? ⟨gb853, 0, none⟩ = some (.int .i64 a0_0) := (blk_cell BK853.out 0).trans rfl; have hcz4_1 : w3.cell? ⟨gb853, 1, none⟩ = some (.int .i64 a0_1) := (blk_cell BK853.out 1).trans rfl; have hcz4_2 : w3.cell? ⟨gb853, 2, none⟩ = some (.int .i64 a0_2) := (blk_cell BK853.out 2).trans rfl; have hcz4_3 : w3.cell? ⟨gb853, 3, none⟩ = some (.int .i64 a0_3) := (blk_cell BK853.out 3).trans rfl; have hcz4_4 : w3.cell? ⟨gb853, 4, none⟩ = some (.int .i64 a0_4) := (blk_cell BK853.out 4).trans rfl; have hcz4_5 : w3.cell? ⟨gb853, 5, none⟩ = some (.int .i64 a0_5) := (blk_cell BK853.out 5).trans rfl; have hcz4_6 : w3.cell? ⟨gb853, 6, none⟩ = some (.int .i64 a0_6) := (blk_cell BK853.out 6).trans rfl; have hcz4_7 : w3.cell? ⟨gb853, 7, none⟩ = some (.int .i64 a0_7) := (blk_cell BK853.out 7).trans rfl; have hcz4_8 : w3.cell? ⟨gb853, 8, none⟩ = some (.int .i64 a0_8) := (blk_cell BK853.out 8).trans rfl; have hcz4_9 : w3.cell? ⟨gb853, 9, none⟩ = some (.slice A0_9 l0_9.length c0_9) := (blk_cell BK853.out 9).trans rfl; have hfz4_0 := blk_frozen BK853.out 0; have hfz4_1 := blk_frozen BK853.out 1; have hfz4_2 := blk_frozen BK853.out 2; have hfz4_3 := blk_frozen BK853.out 3; have hfz4_4 := blk_frozen BK853.out 4; have hfz4_5 := blk_frozen BK853.out 5; have hfz4_6 := blk_frozen BK853.out 6; have hfz4_7 := blk_frozen BK853.out 7; have hfz4_8 := blk_frozen BK853.out 8; have hfz4_9 := blk_frozen BK853.out 9)))
  go_ret
  exact ⟨by first | rfl | (simp [errW_none, errW_some] <;> rfl) | (simp [*, errW_none, errW_some] <;> rfl), by repeat (first | (with_reducible first | exact HB.out | apply below_alloc | apply pw_below_drewN | apply below_drew1 | refine below_set ?_ GE853.out) | exact HB.out)⟩
 ·
  rw [if_neg c2] at H
  have c2b0 : decide (8 < (l0_9.length : Int)) = false := decide_eq_false c2
  have c2b1 : decide (8 < l0_9.length) = false := decide_eq_false (by omega)
  clear c2;have HC5 := Aside0.mk H;clear H
  go_enter Try.func53, Try.ntmps53
  go_upto_region 3 with (first | ((with_reducible refine gate_dst (N := 1) rfl ?_); refine box_event ?hg (N := 1) ?hd (cs := #[.int .i64 a0_0, .int .i64 a0_1, .int .i64 a0_2, .int .i64 a0_3, .int .i64 a0_4, .int .i64 a0_5, .int .i64 a0_6, .int .i64 a0_7, .int .i64 a0_8, .slice A0_9 l0_9.length c0_9]) (t := 66) ?hr ?_; (case hd => rfl); (case hg => rfl); (case hr => first | (go_simp; done) | (go_simp; rfl)); intro gb853 hg w6 hbox hb; have n0_ := Aside0.mk (below_step (by repeat (first | (with_reducible first | exact HB.out | apply below_alloc | apply pw_below_drewN | apply below_drew1) | exact HB.out)) hb); have n1_ := Aside0.mk (hbox); have n2_ := Aside0.mk ((by rw [hg]; exact (below_size (by repeat (first | (with_reducible first | exact HB.out | apply below_alloc | apply pw_below_drewN | apply below_drew1) | exact HB.out))) : w.heap.size ≤ gb853)); have n3_ := Aside0.mk ((by rw [hg]; exact (below_size (by repeat (first | (with_reducible first | exact HB.out | apply below_alloc | apply pw_below_drewN | apply below_drew1) | exact HB.out))) : w.heap.size ≤ gb853)); clear HB; have HB := n0_; have BK853 := n1_; have GW853 := n2_; have GE853 := n3_; clear n0_ n1_ n2_ n3_; clear hb hbox hg; have hcz7_0 : w6.cell? ⟨gb853, 0, none⟩ = some (.int .i64 a0_0) := (blk_cell BK853.out 0).trans rfl; have hcz7_1 : w6.cell? ⟨gb853, 1, none⟩ = some (.int .i64 a0_1) := (blk_cell BK853.out 1).trans rfl; have hcz7_2 : w6.cell? ⟨gb853, 2, none⟩ = some (.int .i64 a0_2) := (blk_cell BK853.out 2).trans rfl; have hcz7_3 : w6.cell? ⟨gb853, 3, none⟩ = some (.int .i64 a0_3) := (blk_cell BK853.out 3).trans rfl; have hcz7_4 : w6.cell? ⟨gb853, 4, none⟩ = some (.int .i64 a0_4) := (blk_cell BK853.out 4).trans rfl; have hcz7_5 : w6.cell? ⟨gb853, 5, none⟩ = some (.int .i64 a0_5) := (blk_cell BK853.out 5).trans rfl; have hcz7_6 : w6.cell? ⟨gb853, 6, none⟩ = some (.int .i64 a0_6) := (blk_cell BK853.out 6).trans rfl; have hcz7_7 : w6.cell? ⟨gb853, 7, none⟩ = some (.int .i64 a0_7) := (blk_cell BK853.out 7).trans rfl; have hcz7_8 : w6.cell? ⟨gb853, 8, none⟩ = some (.int .i64 a0_8) := (blk_cell BK853.out 8).trans rfl; have hcz7_9 : w6.cell? ⟨gb853, 9, none⟩ = some (.slice A0_9 l0_9.length c0_9) := (blk_cell BK853.out 9).trans rfl; have hfz7_0 := blk_frozen BK853.out 0; have hfz7_1 := blk_frozen BK853.out 1; have hfz7_2 := blk_frozen BK853.out 2; have hfz7_3 := blk_frozen BK853.out 3; have hfz7_4 := blk_frozen BK853.out 4; have hfz7_5 := blk_frozen BK853.out 5; have hfz7_6 := blk_frozen BK853.out 6; have hfz7_7 := blk_frozen BK853.out 7; have hfz7_8 := blk_frozen BK853.out 8; have hfz7_9 := blk_frozen BK853.out 9))
  repeat (go_quiet (first | ((with_reducible refine gate_dst (N := 1) rfl ?_); refine box_event ?hg (N := 1) ?hd (cs := #[.int .i64 a0_0, .int .i64 a0_1, .int .i64 a0_2, .int .i64 a0_3, .int .i64 a0_4, .int .i64 a0_5, .int .i64 a0_6, .int .i64 a0_7, .int .i64 a0_8, .slice A0_9 l0_9.length c0_9]) (t := 66) ?hr ?_; (case hd => rfl); (case hg => rfl); (case hr => first | (go_simp; done) | (go_simp; rfl)); intro gb853 hg w6 hbox hb; have n0_ := Aside0.mk (below_step (by repeat (first | (with_reducible first | exact HB.out | apply below_alloc | apply pw_below_drewN | apply below_drew1) | exact HB.out)) hb); have n1_ := Aside0.mk (hbox); have n2_ := Aside0.mk ((by rw [hg]; exact (below_size (by repeat (first | (with_reducible first | exact HB.out | apply below_alloc | apply pw_below_drewN | apply below_drew1) | exact HB.out))) : w.heap.size ≤ gb853)); have n3_ := Aside0.mk ((by rw [hg]; exact (below_size (by repeat (first | (with_reducible first | exact HB.out | apply below_alloc | apply pw_below_drewN | apply below_drew1) | exact HB.out))) : w.heap.size ≤ gb853)); clear HB; have HB := n0_; have BK853 := n1_; have GW853 := n2_; have GE853 := n3_; clear n0_ n1_ n2_ n3_; clear hb hbox hg; have hcz7_0 : w6.cell? ⟨gb853, 0, none⟩ = some (.int .i64 a0_0) := (blk_cell BK853.out 0).trans rfl; have hcz7_1 : w6.cell? ⟨gb853, 1, none⟩ = some (.int .i64 a0_1) := (blk_cell BK853.out 1).trans rfl; have hcz7_2 : w6.cell? ⟨gb853, 2, none⟩ = some (.int .i64 a0_2) := (blk_cell BK853.out 2).trans rfl; have hcz7_3 : w6.cell? ⟨gb853, 3, none⟩ = some (.int .i64 a0_3) := (blk_cell BK853.out 3).trans rfl; have hcz7_4 : w6.cell? ⟨gb853, 4, none⟩ = some (.int .i64 a0_4) := (blk_cell BK853.out 4).trans rfl; have hcz7_5 : w6.cell? ⟨gb853, 5, none⟩ = some (.int .i64 a0_5) := (blk_cell BK853.out 5).trans rfl; have hcz7_6 : w6.cell? ⟨gb853, 6, none⟩ = some (.int .i64 a0_6) := (blk_cell BK853.out 6).trans rfl; have hcz7_7 : w6.cell? ⟨gb853, 7, none⟩ = some (.int .i64 a0_7) := (blk_cell BK853.out 7).trans rfl; have hcz7_8 : w6.cell? ⟨gb853, 8, none⟩ = some (.int .i64 a0_8) := (blk_cell BK853.out 8).trans rfl; have hcz7_9 : w6.cell? ⟨gb853, 9, none⟩ = some (.slice A0_9 l0_9.length c0_9) := (blk_cell BK853.out 9).trans rfl; have hfz7_0 := blk_frozen BK853.out 0; have hfz7_1 := blk_frozen BK853.out 1; have hfz7_2 := blk_frozen BK853.out 2; have hfz7_3 := blk_frozen BK853.out 3; have hfz7_4 := blk_frozen BK853.out 4; have hfz7_5 := blk_frozen BK853.out 5; have hfz7_6 := blk_frozen BK853.out 6; have hfz7_7 := blk_frozen BK853.out 7; have hfz7_8 := blk_frozen BK853.out 8; have hfz7_9 := blk_frozen BK853.out 9)); go_upto_region 3 with (first | ((with_reducible refine gate_dst (N := 1) rfl ?_); refine box_event ?hg (N := 1) ?hd (cs := #[.int .i64 a0_0, .int .i64 a0_1, .int .i64 a0_2, .int .i64 a0_3, .int .i64 a0_4, .int .i64 a0_5, .int .i64 a0_6, .int .i64 a0_7, .int .i64 a0_8, .slice A0_9 l0_9.length c0_9]) (t := 66) ?hr ?_; (case hd => rfl); (case hg => rfl); (case hr => first | (go_simp; done) | (go_simp; rfl)); intro gb853 hg w6 hbox hb; have n0_ := Aside0.mk (below_step (by repeat (first | (with_reducible first | exact HB.out | apply below_alloc | apply pw_below_drewN | apply below_drew1) | exact HB.out)) hb); have n1_ := Aside0.mk (hbox); have n2_ := Aside0.mk ((by rw [hg]; exact (below_size (by repeat (first | (with_reducible first | exact HB.out | apply below_alloc | apply pw_below_drewN | apply below_drew1) | exact HB.out))) : w.heap.size ≤ gb853)); have n3_ := Aside0.mk ((by rw [hg]; exact (below_size (by repeat (first | (with_reducible first | exact HB.out | apply below_alloc | apply pw_below_drewN | apply below_drew1) | exact HB.out))) : w.heap.size ≤ gb853)); clear HB; have HB := n0_; have BK853 := n1_; have GW853 := n2_; have GE853 := n3_; clear n0_ n1_ n2_ n3_; clear hb hbox hg; have hcz7_0 : w6.cell? ⟨gb853, 0, none⟩ = some (.int .i64 a0_0) := (blk_cell BK853.out 0).trans rfl; have hcz7_1 : w6.cell? ⟨gb853, 1, none⟩ = some (.int .i64 a0_1) := (blk_cell BK853.out 1).trans rfl; have hcz7_2 : w6.cell? ⟨gb853, 2, none⟩ = some (.int .i64 a0_2) := (blk_cell BK853.out 2).trans rfl; have hcz7_3 : w6.cell? ⟨gb853, 3, none⟩ = some (.int .i64 a0_3) := (blk_cell BK853.out 3).trans rfl; have hcz7_4 : w6.cell? ⟨gb853, 4, none⟩ = some (.int .i64 a0_4) := (blk_cell BK853.out 4).trans rfl; have hcz7_5 : w6.cell? ⟨gb853, 5, none⟩ = some (.int .i64 a0_5) := (blk_cell BK853.out 5).trans rfl; have hcz7_6 : w6.cell? ⟨gb853, 6, none⟩ = some (.int .i64 a0_6) := (blk_cell BK853.out 6).trans rfl; have hcz7_7 : w6.cell? ⟨gb853, 7, none⟩ = some (.int .i64 a0_7) := (blk_cell BK853.out 7).trans rfl; have hcz7_8 : w6.cell? ⟨gb853, 8, none⟩ = some (.int .i64 a0_8) := (blk_cell BK853.out 8).trans rfl; have hcz7_9 : w6.cell? ⟨gb853, 9, none⟩ = some (.slice A0_9 l0_9.length c0_9) := (blk_cell BK853.out 9).trans rfl; have hfz7_0 := blk_frozen BK853.out 0; have hfz7_1 := blk_frozen BK853.out 1; have hfz7_2 := blk_frozen BK853.out 2; have hfz7_3 := blk_frozen BK853.out 3; have hfz7_4 := blk_frozen BK853.out 4; have hfz7_5 := blk_frozen BK853.out 5; have hfz7_6 := blk_frozen BK853.out 6; have hfz7_7 := blk_frozen BK853.out 7; have hfz7_8 := blk_frozen BK853.out 8; have hfz7_9 := blk_frozen BK853.out 9)))
  (try simp only [Act.put, List.setIfInBounds_toArray, List.set_cons_zero, List.set_cons_succ])
  go_cut [35] (fun v35 wc => ∃ (kq : Nat) (x35_4 : Bool), v35 = .bool x35_4 ∧ Aside0 (tenorlaw8_small.j0 kq x35_4 a0_0 a0_1 a0_2 a0_3 a0_4 a0_5 a0_6 a0_7 a0_8 l0_9 = some r) ∧ Aside0 (kq ≤ k) ∧ Aside0 (wc.heap[gb853]? = some (.cells #[.int .i64 a0_0, .int .i64 a0_1, .int .i64 a0_2, .int .i64 a0_3, .int .i64 a0_4, .int .i64 a0_5, .int .i64 a0_6, .int .i64 a0_7, .int .i64 a0_8, (.slice A0_9 l0_9.length c0_9)] 66 (0, 0))) ∧ Aside0 (Below w.heap.size w wc))
  case first =>
   have H := HC5.out;clear HC5
   by_cases c8 : (l0_9.length : Int) = 0
   ·
    rw [if_pos c8] at H
    have c8b0 : ((l0_9.length : Int) == 0) = true := beq_iff_eq.mpr c8
    have c8b1 : ((l0_9.length : Int) != 0) = false := bne_eq_false_iff_eq.mpr c8
    clear c8
    (first | rw [c8b0] | (simp only [i64_w, i32_w]; rw [c8b0]) | skip)
    have H' := Aside0.mk H;clear H
    have hcz9_0 : w6.cell? ⟨gb853, 0, none⟩ = some (.int .i64 a0_0) := (blk_cell BK853.out 0).trans rfl
    have hcz9_1 : w6.cell? ⟨gb853, 1, none⟩ = some (.int .i64 a0_1) := (blk_cell BK853.out 1).trans rfl
    have hcz9_2 : w6.cell? ⟨gb853, 2, none⟩ = some (.int .i64 a0_2) := (blk_cell BK853.out 2).trans rfl
    have hcz9_3 : w6.cell? ⟨gb853, 3, none⟩ = some (.int .i64 a0_3) := (blk_cell BK853.out 3).trans rfl
    have hcz9_4 : w6.cell? ⟨gb853, 4, none⟩ = some (.int .i64 a0_4) := (blk_cell BK853.out 4).trans rfl
    have hcz9_5 : w6.cell? ⟨gb853, 5, none⟩ = some (.int .i64 a0_5) := (blk_cell BK853.out 5).trans rfl
    have hcz9_6 : w6.cell? ⟨gb853, 6, none⟩ = some (.int .i64 a0_6) := (blk_cell BK853.out 6).trans rfl
    have hcz9_7 : w6.cell? ⟨gb853, 7, none⟩ = some (.int .i64 a0_7) := (blk_cell BK853.out 7).trans rfl
    have hcz9_8 : w6.cell? ⟨gb853, 8, none⟩ = some (.int .i64 a0_8) := (blk_cell BK853.out 8).trans rfl
    have hcz9_9 : w6.cell? ⟨gb853, 9, none⟩ = some (.slice A0_9 l0_9.length c0_9) := (blk_cell BK853.out 9).trans rfl
    have hfz9_0 := blk_frozen BK853.out 0;have hfz9_1 := blk_frozen BK853.out 1;have hfz9_2 := blk_frozen BK853.out 2;have hfz9_3 := blk_frozen BK853.out 3;have hfz9_4 := blk_frozen BK853.out 4;have hfz9_5 := blk_frozen BK853.out 5;have hfz9_6 := blk_frozen BK853.out 6;have hfz9_7 := blk_frozen BK853.out 7;have hfz9_8 := blk_frozen BK853.out 8;have hfz9_9 := blk_frozen BK853.out 9
    go_wp2
    repeat (go_quiet (fail); try go_wp2)
    go_meet
    case rel => exact ⟨_, (true), (by first | rfl | (simp; done) | (simp [*]; done)), H', ⟨by first | omega | exact Nat.le_refl _⟩, ⟨by (with_reducible repeat (first | refine blk_drewN ?_ _ | refine blk_drew ?_ | refine blk_alloc ?_ _)); exact BK853.out⟩, ⟨by repeat (first | (with_reducible first | exact HB.out | apply below_alloc | apply pw_below_drewN | apply below_drew1 | refine below_set ?_ GE853.out) | exact HB.out)⟩⟩
   ·
    rw [if_neg c8] at H
    have c8b0 : ((l0_9.length : Int) == 0) = false := beq_eq_false_iff_ne.mpr c8
    have c8b1 : ((l0_9.length : Int) != 0) = true := bne_iff_ne.mpr c8
    have c8b2 : ¬ (l0_9 = []) := fun h_ => c8 (by rw [h_]; rfl)
    (first | rw [c8b0] | (simp only [i64_w, i32_w]; rw [c8b0]) | skip)
    by_cases c10 : a0_2 < 1
    ·
     rw [if_pos c10] at H
     have c10b0 : decide (a0_2 < 1) = true := decide_eq_true c10
     clear c10;have H' := Aside0.mk H;clear H
     have hcz11_0 : w6.cell? ⟨gb853, 0, none⟩ = some (.int .i64 a0_0) := (blk_cell BK853.out 0).trans rfl
     have hcz11_1 : w6.cell? ⟨gb853, 1, none⟩ = some (.int .i64 a0_1) := (blk_cell BK853.out 1).trans rfl
     have hcz11_2 : w6.cell? ⟨gb853, 2, none⟩ = some (.int .i64 a0_2) := (blk_cell BK853.out 2).trans rfl
     have hcz11_3 : w6.cell? ⟨gb853, 3, none⟩ = some (.int .i64 a0_3) := (blk_cell BK853.out 3).trans rfl
     have hcz11_4 : w6.cell? ⟨gb853, 4, none⟩ = some (.int .i64 a0_4) := (blk_cell BK853.out 4).trans rfl
     have hcz11_5 : w6.cell? ⟨gb853, 5, none⟩ = some (.int .i64 a0_5) := (blk_cell BK853.out 5).trans rfl
     have hcz11_6 : w6.cell? ⟨gb853, 6, none⟩ = some (.int .i64 a0_6) := (blk_cell BK853.out 6).trans rfl
     have hcz11_7 : w6.cell? ⟨gb853, 7, none⟩ = some (.int .i64 a0_7) := (blk_cell BK853.out 7).trans rfl
     have hcz11_8 : w6.cell? ⟨gb853, 8, none⟩ = some (.int .i64 a0_8) := (blk_cell BK853.out 8).trans rfl
     have hcz11_9 : w6.cell? ⟨gb853, 9, none⟩ = some (.slice A0_9 l0_9.length c0_9) := (blk_cell BK853.out 9).trans rfl
     have hfz11_0 := blk_frozen BK853.out 0;have hfz11_1 := blk_frozen BK853.out 1;have hfz11_2 := blk_frozen BK853.out 2;have hfz11_3 := blk_frozen BK853.out 3;have hfz11_4 := blk_frozen BK853.out 4;have hfz11_5 := blk_frozen BK853.out 5;have hfz11_6 := blk_frozen BK853.out 6;have hfz11_7 := blk_frozen BK853.out 7;have hfz11_8 := blk_frozen BK853.out 8;have hfz11_9 := blk_frozen BK853.out 9
     go_wp2
     repeat (go_quiet (fail); try go_wp2)
     go_meet
     case rel => exact ⟨_, (true), (by first | rfl | (simp; done) | (simp [*]; done)), H', ⟨by first | omega | exact Nat.le_refl _⟩, ⟨by (with_reducible repeat (first | refine blk_drewN ?_ _ | refine blk_drew ?_ | refine blk_alloc ?_ _)); exact BK853.out⟩, ⟨by repeat (first | (with_reducible first | exact HB.out | apply below_alloc | apply pw_below_drewN | apply below_drew1 | refine below_set ?_ GE853.out) | exact HB.out)⟩⟩
    ·
     rw [if_neg c10] at H
     have c10b0 : decide (a0_2 < 1) = false := decide_eq_false c10
     clear c10
     by_cases c12 : a0_0 < 0
     ·
      rw [if_pos c12] at H
      have c12b0 : decide (a0_0 < 0) = true := decide_eq_true c12
      clear c12;have H' := Aside0.mk H;clear H
      have hcz13_0 : w6.cell? ⟨gb853, 0, none⟩ = some (.int .i64 a0_0) := (blk_cell BK853.out 0).trans rfl
      have hcz13_1 : w6.cell? ⟨gb853, 1, none⟩ = some (.int .i64 a0_1) := (blk_cell BK853.out 1).trans rfl
      have hcz13_2 : w6.cell? ⟨gb853, 2, none⟩ = some (.int .i64 a0_2) := (blk_cell BK853.out 2).trans rfl
      have hcz13_3 : w6.cell? ⟨gb853, 3, none⟩ = some (.int .i64 a0_3) := (blk_cell BK853.out 3).trans rfl
      have hcz13_4 : w6.cell? ⟨gb853, 4, none⟩ = some (.int .i64 a0_4) := (blk_cell BK853.out 4).trans rfl
      have hcz13_5 : w6.cell? ⟨gb853, 5, none⟩ = some (.int .i64 a0_5) := (blk_cell BK853.out 5).trans rfl
      have hcz13_6 : w6.cell? ⟨gb853, 6, none⟩ = some (.int .i64 a0_6) := (blk_cell BK853.out 6).trans rfl
      have hcz13_7 : w6.cell? ⟨gb853, 7, none⟩ = some (.int .i64 a0_7) := (blk_cell BK853.out 7).trans rfl
      have hcz13_8 : w6.cell? ⟨gb853, 8, none⟩ = some (.int .i64 a0_8) := (blk_cell BK853.out 8).trans rfl
      have hcz13_9 : w6.cell? ⟨gb853, 9, none⟩ = some (.slice A0_9 l0_9.length c0_9) := (blk_cell BK853.out 9).trans rfl
      have hfz13_0 := blk_frozen BK853.out 0;have hfz13_1 := blk_frozen BK853.out 1;have hfz13_2 := blk_frozen BK853.out 2;have hfz13_3 := blk_frozen BK853.out 3;have hfz13_4 := blk_frozen BK853.out 4;have hfz13_5 := blk_frozen BK853.out 5;have hfz13_6 := blk_frozen BK853.out 6;have hfz13_7 := blk_frozen BK853.out 7;have hfz13_8 := blk_frozen BK853.out 8;have hfz13_9 := blk_frozen BK853.out 9
      go_wp2
      repeat (go_quiet (fail); try go_wp2)
      go_meet
      case rel => exact ⟨_, (true), (by first | rfl | (simp; done) | (simp [*]; done)), H', ⟨by first | omega | exact Nat.le_refl _⟩, ⟨by (with_reducible repeat (first | refine blk_drewN ?_ _ | refine blk_drew ?_ | refine blk_alloc ?_ _)); exact BK853.out⟩, ⟨by repeat (first | (with_reducible first | exact HB.out | apply below_alloc | apply pw_below_drewN | apply below_drew1 | refine below_set ?_ GE853.out) | exact HB.out)⟩⟩
     ·
      rw [if_neg c12] at H
      have c12b0 : decide (a0_0 < 0) = false := decide_eq_false c12
      clear c12
      by_cases c14 : a0_1 > 109572
      ·
       rw [if_pos c14] at H
       have c14b0 : decide (109572 < a0_1) = true := decide_eq_true c14
       clear c14;have H' := Aside0.mk H;clear H
       have hcz15_0 : w6.cell? ⟨gb853, 0, none⟩ = some (.int .i64 a0_0) := (blk_cell BK853.out 0).trans rfl
       have hcz15_1 : w6.cell? ⟨gb853, 1, none⟩ = some (.int .i64 a0_1) := (blk_cell BK853.out 1).trans rfl
       have hcz15_2 : w6.cell? ⟨gb853, 2, none⟩ = some (.int .i64 a0_2) := (blk_cell BK853.out 2).trans rfl
       have hcz15_3 : w6.cell? ⟨gb853, 3, none⟩ = some (.int .i64 a0_3) := (blk_cell BK853.out 3).trans rfl
       have hcz15_4 : w6.cell? ⟨gb853, 4, none⟩ = some (.int .i64 a0_4) := (blk_cell BK853.out 4).trans rfl
       have hcz15_5 : w6.cell? ⟨gb853, 5, none⟩ = some (.int .i64 a0_5) := (blk_cell BK853.out 5).trans rfl
       have hcz15_6 : w6.cell? ⟨gb853, 6, none⟩ = some (.int .i64 a0_6) := (blk_cell BK853.out 6).trans rfl
       have hcz15_7 : w6.cell? ⟨gb853, 7, none⟩ = some (.int .i64 a0_7) := (blk_cell BK853.out 7).trans rfl
       have hcz15_8 : w6.cell? ⟨gb853, 8, none⟩ = some (.int .i64 a0_8) := (blk_cell BK853.out 8).trans rfl
       have hcz15_9 : w6.cell? ⟨gb853, 9, none⟩ = some (.slice A0_9 l0_9.length c0_9) := (blk_cell BK853.out 9).trans rfl
       have hfz15_0 := blk_frozen BK853.out 0;have hfz15_1 := blk_frozen BK853.out 1;have hfz15_2 := blk_frozen BK853.out 2;have hfz15_3 := blk_frozen BK853.out 3;have hfz15_4 := blk_frozen BK853.out 4;have hfz15_5 := blk_frozen BK853.out 5;have hfz15_6 := blk_frozen BK853.out 6;have hfz15_7 := blk_frozen BK853.out 7;have hfz15_8 := blk_frozen BK853.out 8;have hfz15_9 := blk_frozen BK853.out 9
       go_wp2
       repeat (go_quiet (fail); try go_wp2)
       go_meet
       case rel => exact ⟨_, (true), (by first | rfl | (simp; done) | (simp [*]; done)), H', ⟨by first | omega | exact Nat.le_refl _⟩, ⟨by (with_reducible repeat (first | refine blk_drewN ?_ _ | refine blk_drew ?_ | refine blk_alloc ?_ _)); exact BK853.out⟩, ⟨by repeat (first | (with_reducible first | exact HB.out | apply below_alloc | apply pw_below_drewN | apply below_drew1 | refine below_set ?_ GE853.out) | exact HB.out)⟩⟩
      ·
       rw [if_neg c14] at H
       have c14b0 : decide (109572 < a0_1) = false := decide_eq_false c14
       clear c14;have H' := Aside0.mk H;clear H
       have hcz16_0 : w6.cell? ⟨gb853, 0, none⟩ = some (.int .i64 a0_0) := (blk_cell BK853.out 0).trans rfl
       have hcz16_1 : w6.cell? ⟨gb853, 1, none⟩ = some (.int .i64 a0_1) := (blk_cell BK853.out 1).trans rfl
       have hcz16_2 : w6.cell? ⟨gb853, 2, none⟩ = some (.int .i64 a0_2) := (blk_cell BK853.out 2).trans rfl
       have hcz16_3 : w6.cell? ⟨gb853, 3, none⟩ = some (.int .i64 a0_3) := (blk_cell BK853.out 3).trans rfl
       have hcz16_4 : w6.cell? ⟨gb853, 4, none⟩ = some (.int .i64 a0_4) := (blk_cell BK853.out 4).trans rfl
       have hcz16_5 : w6.cell? ⟨gb853, 5, none⟩ = some (.int .i64 a0_5) := (blk_cell BK853.out 5).trans rfl
       have hcz16_6 : w6.cell? ⟨gb853, 6, none⟩ = some (.int .i64 a0_6) := (blk_cell BK853.out 6).trans rfl
       have hcz16_7 : w6.cell? ⟨gb853, 7, none⟩ = some (.int .i64 a0_7) := (blk_cell BK853.out 7).trans rfl
       have hcz16_8 : w6.cell? ⟨gb853, 8, none⟩ = some (.int .i64 a0_8) := (blk_cell BK853.out 8).trans rfl
       have hcz16_9 : w6.cell? ⟨gb853, 9, none⟩ = some (.slice A0_9 l0_9.length c0_9) := (blk_cell BK853.out 9).trans rfl
       have hfz16_0 := blk_frozen BK853.out 0;have hfz16_1 := blk_frozen BK853.out 1;have hfz16_2 := blk_frozen BK853.out 2;have hfz16_3 := blk_frozen BK853.out 3;have hfz16_4 := blk_frozen BK853.out 4;have hfz16_5 := blk_frozen BK853.out 5;have hfz16_6 := blk_frozen BK853.out 6;have hfz16_7 := blk_frozen BK853.out 7;have hfz16_8 := blk_frozen BK853.out 8;have hfz16_9 := blk_frozen BK853.out 9
       go_wp2
       repeat (go_quiet (fail); try go_wp2)
       go_meet
       case rel => exact ⟨_, (decide (a0_0 > a0_1)), (by first | rfl | (simp; done) | (simp [*]; done)), H', ⟨by first | omega | exact Nat.le_refl _⟩, ⟨by (with_reducible repeat (first | refine blk_drewN ?_ _ | refine blk_drew ?_ | refine blk_alloc ?_ _)); exact BK853.out⟩, ⟨by repeat (first | (with_reducible first | exact HB.out | apply below_alloc | apply pw_below_drewN | apply below_drew1 | refine below_set ?_ GE853.out) | exact HB.out)⟩⟩
  case rest =>
   clear HC5
   obtain ⟨kq, x35_4, rfl, HA, HJ4, BK853, HB⟩ := hcut
   cases kq with
   | zero => exact absurd HA.out (by simp [tenorlaw8_small.j0])
   | succ kj4 =>
    have H := HA.out;clear HA
    simp only [tenorlaw8_small.j0] at H
    by_cases c17 : x35_4 = true
    ·
     subst c17
     have H1 : (some true) = some r := by rw [if_pos rfl] at H; exact H
     clear H;have H := H1;clear H1
     obtain rfl := Option.some.inj H
     go_wp2
     repeat (go_quiet (fail); try go_wp2)
     go_ret
     exact ⟨by first | rfl | (simp [errW_none, errW_some] <;> rfl) | (simp [*, errW_none, errW_some] <;> rfl), by repeat (first | (with_reducible first | exact HB.out | apply below_alloc | apply pw_below_drewN | apply below_drew1 | refine below_set ?_ GE853.out) | exact HB.out)⟩
    ·
     replace c17 := Bool.eq_false_iff.mpr c17;subst c17
     have H1 : (if a0_3 = 2 then (some (decide ((wrap64 (Int.tdiv (wrap64 (a0_1 - a0_0)) 7)) ≤ (wrap64 (60 * (mn a0_2 2000)))))) else (if a0_3 = 3 then (some (decide ((wrap64 (Int.tdiv (wrap64 (a0_1 - a0_0)) 28)) ≤ (wrap64 (60 * (mn a0_2 2000)))))) else (if a0_3 = 4 then (some (decide ((wrap64 (Int.tdiv (wrap64 (a0_1 - a0_0)) 365)) ≤ (wrap64 (60 * (mn a0_2 2000)))))) else (some (decide ((wrap64 (Int.tdiv (wrap64 (a0_1 - a0_0)) 1)) ≤ (wrap64 (60 * (mn a0_2 2000))))))))) = some r := by rw [if_neg (show ¬ (false = true) by decide)] at H; exact H
     clear H;have H := H1;clear H1
     by_cases c18 : a0_3 = 2
     ·
      rw [if_pos c18] at H
      have c18b0 : (a0_3 == 2) = true := beq_iff_eq.mpr c18
      have c18b1 : (a0_3 != 2) = false := bne_eq_false_iff_eq.mpr c18
      clear c18
      obtain ⟨ji19, hji19⟩ : ∃ j_ : Int, (mn a0_2 2000) = j_ := ⟨_, rfl⟩
      replace H : (some (decide ((wrap64 (Int.tdiv (wrap64 (a0_1 - a0_0)) 7)) ≤ (wrap64 (60 * (ji19)))))) = some r := by first | (rw [hji19] at H; exact H) | (simp only [hji19] at H ⊢; exact H)
      have hji19_ : (if 2000 < a0_2 then 2000 else a0_2) = ji19 := hji19
      obtain rfl := Option.some.inj H
      have hcz20_0 : wc.cell? ⟨gb853, 0, none⟩ = some (.int .i64 a0_0) := (blk_cell BK853.out 0).trans rfl
      have hcz20_1 : wc.cell? ⟨gb853, 1, none⟩ = some (.int .i64 a0_1) := (blk_cell BK853.out 1).trans rfl
      have hcz20_2 : wc.cell? ⟨gb853, 2, none⟩ = some (.int .i64 a0_2) := (blk_cell BK853.out 2).trans rfl
      have hcz20_3 : wc.cell? ⟨gb853, 3, none⟩ = some (.int .i64 a0_3) := (blk_cell BK853.out 3).trans rfl
      have hcz20_4 : wc.cell? ⟨gb853, 4, none⟩ = some (.int .i64 a0_4) := (blk_cell BK853.out 4).trans rfl
      have hcz20_5 : wc.cell? ⟨gb853, 5, none⟩ = some (.int .i64 a0_5) := (blk_cell BK853.out 5).trans rfl
      have hcz20_6 : wc.cell? ⟨gb853, 6, none⟩ = some (.int .i64 a0_6) := (blk_cell BK853.out 6).trans rfl
      have hcz20_7 : wc.cell? ⟨gb853, 7, none⟩ = some (.int .i64 a0_7) := (blk_cell BK853.out 7).trans rfl
      have hcz20_8 : wc.cell? ⟨gb853, 8, none⟩ = some (.int .i64 a0_8) := (blk_cell BK853.out 8).trans rfl
      have hcz20_9 : wc.cell? ⟨gb853, 9, none⟩ = some (.slice A0_9 l0_9.length c0_9) := (blk_cell BK853.out 9).trans rfl
      have hfz20_0 := blk_frozen BK853.out 0;have hfz20_1 := blk_frozen BK853.out 1;have hfz20_2 := blk_frozen BK853.out 2;have hfz20_3 := blk_frozen BK853.out 3;have hfz20_4 := blk_frozen BK853.out 4;have hfz20_5 := blk_frozen BK853.out 5;have hfz20_6 := blk_frozen BK853.out 6;have hfz20_7 := blk_frozen BK853.out 7;have hfz20_8 := blk_frozen BK853.out 8;have hfz20_9 := blk_frozen BK853.out 9
      go_wp2
      repeat (go_quiet (fail); try go_wp2)
      go_ret
      exact ⟨by first | rfl | (simp [errW_none, errW_some] <;> rfl) | (simp only [← hji19]; first | rfl | (simp [errW_none, errW_some] <;> rfl)) | (simp [*, errW_none, errW_some] <;> rfl), by repeat (first | (with_reducible first | exact HB.out | apply below_alloc | apply pw_below_drewN | apply below_drew1 | refine below_set ?_ GE853.out) | exact HB.out)⟩
     ·
      rw [if_neg c18] at H
      have c18b0 : (a0_3 == 2) = false := beq_eq_false_iff_ne.mpr c18
      have c18b1 : (a0_3 != 2) = true := bne_iff_ne.mpr c18
      by_cases c21 : a0_3 = 3
      ·
       rw [if_pos c21] at H
       have c21b0 : (a0_3 == 3) = true := beq_iff_eq.mpr c21
       have c21b1 : (a0_3 != 3) = false := bne_eq_false_iff_eq.mpr c21
       clear c21
       obtain ⟨ji22, hji22⟩ : ∃ j_ : Int, (mn a0_2 2000) = j_ := ⟨_, rfl⟩
       replace H : (some (decide ((wrap64 (Int.tdiv (wrap64 (a0_1 - a0_0)) 28)) ≤ (wrap64 (60 * (ji22)))))) = some r := by first | (rw [hji22] at H; exact H) | (simp only [hji22] at H ⊢; exact H)
       have hji22_ : (if 2000 < a0_2 then 2000 else a0_2) = ji22 := hji22
       obtain rfl := Option.some.inj H
       have hcz23_0 : wc.cell? ⟨gb853, 0, none⟩ = some (.int .i64 a0_0) := (blk_cell BK853.out 0).trans rfl
       have hcz23_1 : wc.cell? ⟨gb853, 1, none⟩ = some (.int .i64 a0_1) := (blk_cell BK853.out 1).trans rfl
       have hcz23_2 : wc.cell? ⟨gb853, 2, none⟩ = some (.int .i64 a0_2) := (blk_cell BK853.out 2).trans rfl
       have hcz23_3 : wc.cell? ⟨gb853, 3, none⟩ = some (.int .i64 a0_3) := (blk_cell BK853.out 3).trans rfl
       have hcz23_4 : wc.cell? ⟨gb853, 4, none⟩ = some (.int .i64 a0_4) := (blk_cell BK853.out 4).trans rfl
       have hcz23_5 : wc.cell? ⟨gb853, 5, none⟩ = some (.int .i64 a0_5) := (blk_cell BK853.out 5).trans rfl
       have hcz23_6 : wc.cell? ⟨gb853, 6, none⟩ = some (.int .i64 a0_6) := (blk_cell BK853.out 6).trans rfl
       have hcz23_7 : wc.cell? ⟨gb853, 7, none⟩ = some (.int .i64 a0_7) := (blk_cell BK853.out 7).trans rfl
       have hcz23_8 : wc.cell? ⟨gb853, 8, none⟩ = some (.int .i64 a0_8) := (blk_cell BK853.out 8).trans rfl
       have hcz23_9 : wc.cell? ⟨gb853, 9, none⟩ = some (.slice A0_9 l0_9.length c0_9) := (blk_cell BK853.out 9).trans rfl
       have hfz23_0 := blk_frozen BK853.out 0;have hfz23_1 := blk_frozen BK853.out 1;have hfz23_2 := blk_frozen BK853.out 2;have hfz23_3 := blk_frozen BK853.out 3;have hfz23_4 := blk_frozen BK853.out 4;have hfz23_5 := blk_frozen BK853.out 5;have hfz23_6 := blk_frozen BK853.out 6;have hfz23_7 := blk_frozen BK853.out 7;have hfz23_8 := blk_frozen BK853.out 8;have hfz23_9 := blk_frozen BK853.out 9
       go_wp2
       repeat (go_quiet (fail); try go_wp2)
       go_ret
       exact ⟨by first | rfl | (simp [errW_none, errW_some] <;> rfl) | (simp only [← hji22]; first | rfl | (simp [errW_none, errW_some] <;> rfl)) | (simp [*, errW_none, errW_some] <;> rfl), by repeat (first | (with_reducible first | exact HB.out | apply below_alloc | apply pw_below_drewN | apply below_drew1 | refine below_set ?_ GE853.out) | exact HB.out)⟩
      ·
       rw [if_neg c21] at H
       have c21b0 : (a0_3 == 3) = false := beq_eq_false_iff_ne.mpr c21
       have c21b1 : (a0_3 != 3) = true := bne_iff_ne.mpr c21
       by_cases c24 : a0_3 = 4
       ·
        rw [if_pos c24] at H
        have c24b0 : (a0_3 == 4) = true := beq_iff_eq.mpr c24
        have c24b1 : (a0_3 != 4) = false := bne_eq_false_iff_eq.mpr c24
        clear c24
        obtain ⟨ji25, hji25⟩ : ∃ j_ : Int, (mn a0_2 2000) = j_ := ⟨_, rfl⟩
        replace H : (some (decide ((wrap64 (Int.tdiv (wrap64 (a0_1 - a0_0)) 365)) ≤ (wrap64 (60 * (ji25)))))) = some r := by first | (rw [hji25] at H; exact H) | (simp only [hji25] at H ⊢; exact H)
        have hji25_ : (if 2000 < a0_2 then 2000 else a0_2) = ji25 := hji25
        obtain rfl := Option.some.inj H
        have hcz26_0 : wc.cell? ⟨gb853, 0, none⟩ = some (.int .i64 a0_0) := (blk_cell BK853.out 0).trans rfl
        have hcz26_1 : wc.cell? ⟨gb853, 1, none⟩ = some (.int .i64 a0_1) := (blk_cell BK853.out 1).trans rfl
        have hcz26_2 : wc.cell? ⟨gb853, 2, none⟩ = some (.int .i64 a0_2) := (blk_cell BK853.out 2).trans rfl
        have hcz26_3 : wc.cell? ⟨gb853, 3, none⟩ = some (.int .i64 a0_3) := (blk_cell BK853.out 3).trans rfl
        have hcz26_4 : wc.cell? ⟨gb853, 4, none⟩ = some (.int .i64 a0_4) := (blk_cell BK853.out 4).trans rfl
        have hcz26_5 : wc.cell? ⟨gb853, 5, none⟩ = some (.int .i64 a0_5) := (blk_cell BK853.out 5).trans rfl
        have hcz26_6 : wc.cell? ⟨gb853, 6, none⟩ = some (.int .i64 a0_6) := (blk_cell BK853.out 6).trans rfl
        have hcz26_7 : wc.cell? ⟨gb853, 7, none⟩ = some (.int .i64 a0_7) := (blk_cell BK853.out 7).trans rfl
        have hcz26_8 : wc.cell? ⟨gb853, 8, none⟩ = some (.int .i64 a0_8) := (blk_cell BK853.out 8).trans rfl
        have hcz26_9 : wc.cell? ⟨gb853, 9, none⟩ = some (.slice A0_9 l0_9.length c0_9) := (blk_cell BK853.out 9).trans rfl
        have hfz26_0 := blk_frozen BK853.out 0;have hfz26_1 := blk_frozen BK853.out 1;have hfz26_2 := blk_frozen BK853.out 2;have hfz26_3 := blk_frozen BK853.out 3;have hfz26_4 := blk_frozen BK853.out 4;have hfz26_5 := blk_frozen BK853.out 5;have hfz26_6 := blk_frozen BK853.out 6;have hfz26_7 := blk_frozen BK853.out 7;have hfz26_8 := blk_frozen BK853.out 8;have hfz26_9 := blk_frozen BK853.out 9
        go_wp2
        repeat (go_quiet (fail); try go_wp2)
        go_ret
        exact ⟨by first | rfl | (simp [errW_none, errW_some] <;> rfl) | (simp only [← hji25]; first | rfl | (simp [errW_none, errW_some] <;> rfl)) | (simp [*, errW_none, errW_some] <;> rfl), by repeat (first | (with_reducible first | exact HB.out | apply below_alloc | apply pw_below_drewN | apply below_drew1 | refine below_set ?_ GE853.out) | exact HB.out)⟩
       ·
        rw [if_neg c24] at H
        have c24b0 : (a0_3 == 4) = false := beq_eq_false_iff_ne.mpr c24
        have c24b1 : (a0_3 != 4) = true := bne_iff_ne.mpr c24
        obtain ⟨ji27, hji27⟩ : ∃ j_ : Int, (mn a0_2 2000) = j_ := ⟨_, rfl⟩
        replace H : (some (decide ((wrap64 (Int.tdiv (wrap64 (a0_1 - a0_0)) 1)) ≤ (wrap64 (60 * (ji27)))))) = some r := by first | (rw [hji27] at H; exact H) | (simp only [hji27] at H ⊢; exact H)
        have hji27_ : (if 2000 < a0_2 then 2000 else a0_2) = ji27 := hji27
        obtain rfl := Option.some.inj H
        have hcz28_0 : wc.cell? ⟨gb853, 0, none⟩ = some (.int .i64 a0_0) := (blk_cell BK853.out 0).trans rfl
        have hcz28_1 : wc.cell? ⟨gb853, 1, none⟩ = some (.int .i64 a0_1) := (blk_cell BK853.out 1).trans rfl
        have hcz28_2 : wc.cell? ⟨gb853, 2, none⟩ = some (.int .i64 a0_2) := (blk_cell BK853.out 2).trans rfl
        have hcz28_3 : wc.cell? ⟨gb853, 3, none⟩ = some (.int .i64 a0_3) := (blk_cell BK853.out 3).trans rfl
        have hcz28_4 : wc.cell? ⟨gb853, 4, none⟩ = some (.int .i64 a0_4) := (blk_cell BK853.out 4).trans rfl
        have hcz28_5 : wc.cell? ⟨gb853, 5, none⟩ = some (.int .i64 a0_5) := (blk_cell BK853.out 5).trans rfl
        have hcz28_6 : wc.cell? ⟨gb853, 6, none⟩ = some (.int .i64 a0_6) := (blk_cell BK853.out 6).trans rfl
        have hcz28_7 : wc.cell? ⟨gb853, 7, none⟩ = some (.int .i64 a0_7) := (blk_cell BK853.out 7).trans rfl
        have hcz28_8 : wc.cell? ⟨gb853, 8, none⟩ = some (.int .i64 a0_8) := (blk_cell BK853.out 8).trans rfl
        have hcz28_9 : wc.cell? ⟨gb853, 9, none⟩ = some (.slice A0_9 l0_9.length c0_9) := (blk_cell BK853.out 9).trans rfl
        have hfz28_0 := blk_frozen BK853.out 0;have hfz28_1 := blk_frozen BK853.out 1;have hfz28_2 := blk_frozen BK853.out 2;have hfz28_3 := blk_frozen BK853.out 3;have hfz28_4 := blk_frozen BK853.out 4;have hfz28_5 := blk_frozen BK853.out 5;have hfz28_6 := blk_frozen BK853.out 6;have hfz28_7 := blk_frozen BK853.out 7;have hfz28_8 := blk_frozen BK853.out 8;have hfz28_9 := blk_frozen BK853.out 9
        go_wp2
        repeat (go_quiet (fail); try go_wp2)
        go_ret
        exact ⟨by first | rfl | (simp [errW_none, errW_some] <;> rfl) | (simp only [← hji27]; first | rfl | (simp [errW_none, errW_some] <;> rfl)) | (simp [*, errW_none, errW_some] <;> rfl), by repeat (first | (with_reducible first | exact HB.out | apply below_alloc | apply pw_below_drewN | apply below_drew1 | refine below_set ?_ GE853.out) | exact HB.out)⟩
end Go.Proofs.Ytoncignjcgjhhaa.Q
