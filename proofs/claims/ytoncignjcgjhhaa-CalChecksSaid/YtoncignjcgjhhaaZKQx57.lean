/- Contracts of functions of the seat's program: each Go function's Lean function and its walk, written by a program of this session over the kit's print. Not trusted: Lean checks it. -/
import Derived.Test.YtoncignjcgjhhaaZGA
import Derived.Test.YtoncignjcgjhhaaZK
set_option linter.unusedVariables false
set_option linter.unusedSimpArgs false
namespace Go.Proofs.Ytoncignjcgjhhaa.Q
open Go.RowKit Go.Proofs.YtoncignjcgjhhaaW.PrintWords Go.Proofs.YtoncignjcgjhhaaW.PrintLast Go.Proofs.YtoncignjcgjhhaaW.PrintMore
attribute [local go_sem] max2_int min2_int max_two min_two max_three min_three max_four min_four   -- for this text's walks alone
set_option linter.unusedVariables false
set_option linter.unusedSimpArgs false

/-! ### cal_moves: function 86 -/
def cal_moves.l0 : Nat → List (S63) → Int → Int → Option (Bool)
  | 0, _, _, _ => none
  | k + 1, x6, x7, x8 => if x8 < x7 then (if 0 ≤ x8 then (if x8 < (x6.length : Int) then (if ((rd_T63 x6 x8).f8) = 0 then (cal_moves.l0 k x6 x7 (wrap64 (x8 + 1))) else (some true)) else (none)) else (none)) else (some false)
def cal_moves.f (k : Nat) (a0_0 : Int) (l0_1 : List (S63)) : Option (Bool) := cal_moves.l0 k l0_1 (l0_1.length : Int) 0
theorem cal_moves.mono_l : ∀ k, (∀ y0 y1 y2, LeO (cal_moves.l0 k y0 y1 y2) (cal_moves.l0 (k + 1) y0 y1 y2))
 | 0 => fun _ _ _ r h => by simp [cal_moves.l0] at h
 | k + 1 => by
  have ih0 := cal_moves.mono_l k
  ·
   intro y0 y1 y2
   unfold cal_moves.l0
   repeat' first
   | (with_reducible exact ih0 _ _ _)
   | (with_reducible exact LeO.refl _)
   | (with_reducible exact LeO.none _)
   | (with_reducible refine LeO.ite ?_ ?_)
   | (with_reducible refine LeO.bind ?_ (fun _ => ?_))
   | exact ih0 _ _ _
   | exact LeO.none _
   | refine LeO.ite ?_ ?_
   | refine LeO.bind ?_ (fun _ => ?_)
theorem cal_moves.mono : ∀ a0 a1 k, LeO (cal_moves.f k a0 a1) (cal_moves.f (k + 1) a0 a1) := by
 intro a0 a1 k
 have ih0 := cal_moves.mono_l k
 unfold cal_moves.f
 repeat' first
   | (with_reducible exact ih0 _ _ _)
   | (with_reducible exact LeO.refl _)
   | (with_reducible exact LeO.none _)
   | (with_reducible refine LeO.ite ?_ ?_)
   | (with_reducible refine LeO.bind ?_ (fun _ => ?_))
   | exact ih0 _ _ _
   | exact LeO.none _
   | refine LeO.ite ?_ ?_
   | refine LeO.bind ?_ (fun _ => ?_)
set_option maxHeartbeats 8000000 in
set_option maxRecDepth 100000 in
theorem cal_moves.calls (k : Nat) (a0_0 : Int) (A0_1 : Option Addr) (c0_1 : Nat) (l0_1 : List (S63)) (r : Bool) (w : World) (hr0_1 : Kd.C k63 w A0_1 l0_1.length l0_1) (hc0_1 : l0_1.length ≤ c0_1) (h : cal_moves.f k a0_0 l0_1 = some r) :
  Calls Try.prog 86 #[.agg #[.int .i64 a0_0, .slice A0_1 l0_1.length c0_1]] w fun e w' => e = .returned (.bool r) ∧ Below w.heap.size w w' := by
 have hu24 := Try.underlying24;have hu63 := Try.underlying63;have HR0_1 := Aside0.mk hr0_1;have HC0_1 := Aside0.mk hc0_1;clear hr0_1 hc0_1
 have HB := Aside0.mk (Below.refl w.heap.size w)
 have H : (cal_moves.l0 k l0_1 (l0_1.length : Int) 0) = some r := h
 clear h;have H' := Aside0.mk H;clear H
 go_enter Try.func86, Try.ntmps86
 go_wp2_with (first | ((with_reducible refine gate_dst (N := 1) rfl ?_); refine box_event ?hg (N := 1) ?hd (cs := #[.int .i64 a0_0, .slice A0_1 l0_1.length c0_1]) (t := 24) ?hr ?_; (case hd => rfl); (case hg => rfl); (case hr => first | (go_simp; done) | (go_simp; rfl)); intro gb600 hg w2 hbox hb; have n0_ := Aside0.mk (below_step (by repeat (first | (with_reducible first | exact HB.out | apply below_alloc | apply pw_below_drewN | apply below_drew1) | exact HB.out)) hb); have n1_ := Aside0.mk (hbox); have n2_ := Aside0.mk ((by rw [hg]; exact (below_size (by repeat (first | (with_reducible first | exact HB.out | apply below_alloc | apply pw_below_drewN | apply below_drew1) | exact HB.out))) : w.heap.size ≤ gb600)); have n3_ := Aside0.mk ((by rw [hg]; exact (below_size (by repeat (first | (with_reducible first | exact HB.out | apply below_alloc | apply pw_below_drewN | apply below_drew1) | exact HB.out))) : w.heap.size ≤ gb600)); clear HB; have HB := n0_; have BK600 := n1_; have GW600 := n2_; have GE600 := n3_; clear n0_ n1_ n2_ n3_; clear hb hbox hg; have hcz3_0 : w2.cell? ⟨gb600, 0, none⟩ = some (.int .i64 a0_0) := (blk_cell BK600.out 0).trans rfl; have hcz3_1 : w2.cell? ⟨gb600, 1, none⟩ = some (.slice A0_1 l0_1.length c0_1) := (blk_cell BK600.out 1).trans rfl; have hfz3_0 := blk_frozen BK600.out 0; have hfz3_1 := blk_frozen BK600.out 1))
 go_loopg [8] k (fun kq v8 w' => ∃ (x8_1 : Int), v8 = .int .i64 x8_1 ∧ Aside0 (cal_moves.l0 kq l0_1 (l0_1.length : Int) x8_1 = some r) ∧ Aside0 (kq ≤ k) ∧ Aside0 (w'.heap[gb600]? = some (.cells #[.int .i64 a0_0, (.slice A0_1 l0_1.length c0_1)] 24 (0, 0))) ∧ Aside0 (Below w.heap.size w w'))
 case atStart => exact ⟨(0), (by first | rfl | (simp; done) | (simp [*]; done)), H', ⟨Nat.le_refl _⟩, ⟨by (with_reducible repeat (first | refine blk_drewN ?_ _ | refine blk_drew ?_ | refine blk_alloc ?_ _)); exact BK600.out⟩, ⟨by repeat (first | (with_reducible first | exact HB.out | apply below_alloc | apply pw_below_drewN | apply below_drew1 | refine below_set ?_ GE600.out) | exact HB.out)⟩⟩
 case round =>
  clear H'
  obtain ⟨x8_1, rfl, HA, HK1, BK600, HB⟩ := hrel
  cases gk with
  | zero => exact absurd HA.out (by simp [cal_moves.l0])
  | succ k1 =>
   have H := HA.out;clear HA
   simp only [cal_moves.l0] at H
   by_cases c4 : x8_1 < (l0_1.length : Int)
   ·
    rw [if_pos c4] at H
    have c4b0 : decide (x8_1 < (l0_1.length : Int)) = true := decide_eq_true c4
    clear c4
    by_cases c5 : 0 ≤ x8_1
    ·
     rw [if_pos c5] at H
     have c5b0 : decide (0 ≤ x8_1) = true := decide_eq_true c5
     clear c5
     by_cases c6 : x8_1 < (l0_1.length : Int)
     ·
      rw [if_pos c6] at H
      have c6b0 : decide (x8_1 < (l0_1.length : Int)) = true := decide_eq_true c6
      clear c6
      by_cases c7 : ((rd_T63 l0_1 x8_1).f8) = 0
      ·
       rw [if_pos c7] at H
       have c7b0 : (((rd_T63 l0_1 x8_1).f8) == 0) = true := beq_iff_eq.mpr c7
       have c7b1 : (((rd_T63 l0_1 x8_1).f8) != 0) = false := bne_eq_false_iff_eq.mpr c7
       clear c7;have H' := Aside0.mk H;clear H
       have p601 : 0 ≤ (x8_1 : Int) := of_decide_eq_true (by first | (with_reducible assumption) | assumption)
       have q601 : x8_1 < (l0_1.length : Int) := of_decide_eq_true (by first | (with_reducible assumption) | assumption)
       obtain ⟨ad601, e601, hx601_0, hx601_1, hx601_2, hx601_3, hx601_4, hx601_5, hx601_6, hx601_7, hx601_8⟩ := at_T63 HR0_1.out x8_1 p601 q601
       cases e601
       replace hx601_0 := (HB.out.cell (World.block_lt_of_cell? w _ hx601_0)).trans hx601_0
       replace hx601_1 := (HB.out.cell (World.block_lt_of_cell? w _ hx601_1)).trans hx601_1
       replace hx601_2 := (HB.out.cell (World.block_lt_of_cell? w _ hx601_2)).trans hx601_2
       replace hx601_3 := (HB.out.cell (World.block_lt_of_cell? w _ hx601_3)).trans hx601_3
       replace hx601_4 := (HB.out.cell (World.block_lt_of_cell? w _ hx601_4)).trans hx601_4
       replace hx601_5 := (HB.out.cell (World.block_lt_of_cell? w _ hx601_5)).trans hx601_5
       replace hx601_6 := (HB.out.cell (World.block_lt_of_cell? w _ hx601_6)).trans hx601_6
       replace hx601_7 := (HB.out.cell (World.block_lt_of_cell? w _ hx601_7)).trans hx601_7
       replace hx601_8 := (HB.out.cell (World.block_lt_of_cell? w _ hx601_8)).trans hx601_8
       replace p601 := eq_true p601;replace q601 := eq_true q601
       go_wp2_with (first | ((with_reducible refine gate_dst (N := 4) rfl ?_); refine box_event ?hg (N := 4) ?hd (cs := #[.int .i64 0, .int .i64 0, .int .i64 0, .int .i64 0, .int .i64 0, .int .i64 0, .int .i64 0, .int .i64 0, .int .i64 0]) (t := 63) ?hr ?_; (case hd => rfl); (case hg => rfl); (case hr => first | (go_simp; done) | (go_simp; rfl)); intro gb602 hg w8 hbox hb; have n0_ := Aside0.mk (blk_below (g := gb600) (o := .cells #[.int .i64 a0_0, .slice (some ad601) l0_1.length c0_1] 24 (0, 0)) (by (with_reducible repeat (first | refine blk_drewN ?_ _ | refine blk_drew ?_ | refine blk_alloc ?_ _)); exact BK600.out) hb); have n1_ := Aside0.mk (below_step (by repeat (first | (with_reducible first | exact HB.out | apply below_alloc | apply pw_below_drewN | apply below_drew1 | refine below_set ?_ GE600.out) | exact HB.out)) hb); have n2_ := Aside0.mk (hbox); have n3_ := Aside0.mk ((by rw [hg]; exact (below_size (by repeat (first | (with_reducible first | exact HB.out | apply below_alloc | apply pw_below_drewN | apply below_drew1 | refine below_set ?_ GE600.out) | exact HB.out))) : w.heap.size ≤ gb602)); have n4_ := Aside0.mk ((by rw [hg]; exact (below_size (by repeat (first | (with_reducible first | exact HB.out | apply below_alloc | apply pw_below_drewN | apply below_drew1 | refine below_set ?_ GE600.out) | exact HB.out))) : w.heap.size ≤ gb602)); have n5_ := Aside0.mk ((by rw [hg]; exact Nat.ne_of_lt (blk_lt (g := gb600) (o := .cells #[.int .i64 a0_0, .slice (some ad601) l0_1.length c0_1] 24 (0, 0)) (by (with_reducible repeat (first | refine blk_drewN ?_ _ | refine blk_drew ?_ | refine blk_alloc ?_ _)); exact BK600.out)) : gb600 ≠ gb602)); have n6_ := Aside0.mk ((by rw [hg]; exact Nat.ne_of_gt (blk_lt (g := gb600) (o := .cells #[.int .i64 a0_0, .slice (some ad601) l0_1.length c0_1] 24 (0, 0)) (by (with_reducible repeat (first | refine blk_drewN ?_ _ | refine blk_drew ?_ | refine blk_alloc ?_ _)); exact BK600.out)) : gb602 ≠ gb600)); clear BK600; clear HB; have BK600 := n0_; have HB := n1_; have BK602 := n2_; have GW602 := n3_; have GE602 := n4_; have NB600_602 := n5_; have NB602_600 := n6_; clear n0_ n1_ n2_ n3_ n4_ n5_ n6_; clear hb hbox hg; have hnb9 := NB602_600.out; have hnc9 := NB600_602.out; have hcz10_0 : w8.cell? ⟨gb602, 0, none⟩ = some (.int .i64 0) := (blk_cell BK602.out 0).trans rfl; have hcz10_1 : w8.cell? ⟨gb602, 1, none⟩ = some (.int .i64 0) := (blk_cell BK602.out 1).trans rfl; have hcz10_2 : w8.cell? ⟨gb602, 2, none⟩ = some (.int .i64 0) := (blk_cell BK602.out 2).trans rfl; have hcz10_3 : w8.cell? ⟨gb602, 3, none⟩ = some (.int .i64 0) := (blk_cell BK602.out 3).trans rfl; have hcz10_4 : w8.cell? ⟨gb602, 4, none⟩ = some (.int .i64 0) := (blk_cell BK602.out 4).trans rfl; have hcz10_5 : w8.cell? ⟨gb602, 5, none⟩ = some (.int .i64 0) := (blk_cell BK602.out 5).trans rfl; have hcz10_6 : w8.cell? ⟨gb602, 6, none⟩ = some (.int .i64 0) := (blk_cell BK602.out 6).trans rfl; have hcz10_7 : w8.cell? ⟨gb602, 7, none⟩ = some (.int .i64 0) := (blk_cell BK602.out 7).trans rfl; have hcz10_8 : w8.cell? ⟨gb602, 8, none⟩ = some (.int .i64 0) := (blk_cell BK602.out 8).trans rfl; have hfz10_0 := blk_frozen BK602.out 0; have hfz10_1 := blk_frozen BK602.out 1; have hfz10_2 := blk_frozen BK602.out 2; have hfz10_3 := blk_frozen BK602.out 3; have hfz10_4 := blk_frozen BK602.out 4; have hfz10_5 := blk_frozen BK602.out 5; have hfz10_6 := blk_frozen BK602.out 6; have hfz10_7 := blk_frozen BK602.out 7; have hfz10_8 := blk_frozen BK602.out 8))
       go_roundg k1
       case measure => have := HK1.out; omega
       case rel => exact ⟨(wrap64 (x8_1 + 1)), (by first | rfl | (simp; done) | (simp [*]; done)), H', ⟨by have := HK1.out; omega⟩, ⟨by (with_reducible repeat (first | refine blk_drewN ?_ _ | refine blk_drew ?_ | refine blk_alloc ?_ _)); refine blk_far ?_ NB600_602.out _; (with_reducible repeat (first | refine blk_drewN ?_ _ | refine blk_drew ?_ | refine blk_alloc ?_ _)); refine blk_far ?_ NB600_602.out _; (with_reducible repeat (first | refine blk_drewN ?_ _ | refine blk_drew ?_ | refine blk_alloc ?_ _)); refine blk_far ?_ NB600_602.out _; (with_reducible repeat (first | refine blk_drewN ?_ _ | refine blk_drew ?_ | refine blk_alloc ?_ _)); refine blk_far ?_ NB600_602.out _; (with_reducible repeat (first | refine blk_drewN ?_ _ | refine blk_drew ?_ | refine blk_alloc ?_ _)); refine blk_far ?_ NB600_602.out _; (with_reducible repeat (first | refine blk_drewN ?_ _ | refine blk_drew ?_ | refine blk_alloc ?_ _)); refine blk_far ?_ NB600_602.out _; (with_reducible repeat (first | refine blk_drewN ?_ _ | refine blk_drew ?_ | refine blk_alloc ?_ _)); refine blk_far ?_ NB600_602.out _; (with_reducible repeat (first | refine blk_drewN ?_ _ | refine blk_drew ?_ | refine blk_alloc ?_ _)); refine blk_far ?_ NB600_602.out _; (with_reducible repeat (first | refine blk_drewN ?_ _ | refine blk_drew ?_ | refine blk_alloc ?_ _)); refine blk_far ?_ NB600_602.out _; (with_reducible repeat (first | refine blk_drewN ?_ _ | refine blk_drew ?_ | refine blk_alloc ?_ _)); exact BK600.out⟩, ⟨by repeat (first | (with_reducible first | exact HB.out | apply below_alloc | apply pw_below_drewN | apply below_drew1 | refine below_set ?_ GE600.out | refine below_set ?_ GE602.out) | exact HB.out)⟩⟩
      ·
       rw [if_neg c7] at H
       have c7b0 : (((rd_T63 l0_1 x8_1).f8) == 0) = false := beq_eq_false_iff_ne.mpr c7
       have c7b1 : (((rd_T63 l0_1 x8_1).f8) != 0) = true := bne_iff_ne.mpr c7
       obtain rfl := Option.some.inj H
       have p601 : 0 ≤ (x8_1 : Int) := of_decide_eq_true (by first | (with_reducible assumption) | assumption)
       have q601 : x8_1 < (l0_1.length : Int) := of_decide_eq_true (by first | (with_reducible assumption) | assumption)
       obtain ⟨ad601, e601, hx601_0, hx601_1, hx601_2, hx601_3, hx601_4, hx601_5, hx601_6, hx601_7, hx601_8⟩ := at_T63 HR0_1.out x8_1 p601 q601
       cases e601
       replace hx601_0 := (HB.out.cell (World.block_lt_of_cell? w _ hx601_0)).trans hx601_0
       replace hx601_1 := (HB.out.cell (World.block_lt_of_cell? w _ hx601_1)).trans hx601_1
       replace hx601_2 := (HB.out.cell (World.block_lt_of_cell? w _ hx601_2)).trans hx601_2
       replace hx601_3 := (HB.out.cell (World.block_lt_of_cell? w _ hx601_3)).trans hx601_3
       replace hx601_4 := (HB.out.cell (World.block_lt_of_cell? w _ hx601_4)).trans hx601_4
       replace hx601_5 := (HB.out.cell (World.block_lt_of_cell? w _ hx601_5)).trans hx601_5
       replace hx601_6 := (HB.out.cell (World.block_lt_of_cell? w _ hx601_6)).trans hx601_6
       replace hx601_7 := (HB.out.cell (World.block_lt_of_cell? w _ hx601_7)).trans hx601_7
       replace hx601_8 := (HB.out.cell (World.block_lt_of_cell? w _ hx601_8)).trans hx601_8
       replace p601 := eq_true p601;replace q601 := eq_true q601
       go_wp2_with (first | ((with_reducible refine gate_dst (N := 4) rfl ?_); refine box_event ?hg (N := 4) ?hd (cs := #[.int .i64 0, .int .i64 0, .int .i64 0, .int .i64 0, .int .i64 0, .int .i64 0, .int .i64 0, .int .i64 0, .int .i64 0]) (t := 63) ?hr ?_; (case hd => rfl); (case hg => rfl); (case hr => first | (go_simp; done) | (go_simp; rfl)); intro gb602 hg w11 hbox hb; have n0_ := Aside0.mk (blk_below (g := gb600) (o := .cells #[.int .i64 a0_0, .slice (some ad601) l0_1.length c0_1] 24 (0, 0)) (by (with_reducible repeat (first | refine blk_drewN ?_ _ | refine blk_drew ?_ | refine blk_alloc ?_ _)); exact BK600.out) hb); have n1_ := Aside0.mk (below_step (by repeat (first | (with_reducible first | exact HB.out | apply below_alloc | apply pw_below_drewN | apply below_drew1 | refine below_set ?_ GE600.out) | exact HB.out)) hb); have n2_ := Aside0.mk (hbox); have n3_ := Aside0.mk ((by rw [hg]; exact (below_size (by repeat (first | (with_reducible first | exact HB.out | apply below_alloc | apply pw_below_drewN | apply below_drew1 | refine below_set ?_ GE600.out) | exact HB.out))) : w.heap.size ≤ gb602)); have n4_ := Aside0.mk ((by rw [hg]; exact (below_size (by repeat (first | (with_reducible first | exact HB.out | apply below_alloc | apply pw_below_drewN | apply below_drew1 | refine below_set ?_ GE600.out) | exact HB.out))) : w.heap.size ≤ gb602)); have n5_ := Aside0.mk ((by rw [hg]; exact Nat.ne_of_lt (blk_lt (g := gb600) (o := .cells #[.int .i64 a0_0, .slice (some ad601) l0_1.length c0_1] 24 (0, 0)) (by (with_reducible repeat (first | refine blk_drewN ?_ _ | refine blk_drew ?_ | refine blk_alloc ?_ _)); exact BK600.out)) : gb600 ≠ gb602)); have n6_ := Aside0.mk ((by rw [hg]; exact Nat.ne_of_gt (blk_lt (g := gb600) (o := .cells #[.int .i64 a0_0, .slice (some ad601) l0_1.length c0_1] 24 (0, 0)) (by (with_reducible repeat (first | refine blk_drewN ?_ _ | refine blk_drew ?_ | refine blk_alloc ?_ _)); exact BK600.out)) : gb602 ≠ gb600)); clear BK600; clear HB; have BK600 := n0_; have HB := n1_; have BK602 := n2_; have GW602 := n3_; have GE602 := n4_; have NB600_602 := n5_; have NB602_600 := n6_; clear n0_ n1_ n2_ n3_ n4_ n5_ n6_; clear hb hbox hg; have hnb12 := NB602_600.out; have hnc12 := NB600_602.out; have hcz13_0 : w11.cell? ⟨gb602, 0, none⟩ = some (.int .i64 0) := (blk_cell BK602.out 0).trans rfl; have hcz13_1 : w11.cell? ⟨gb602, 1, none⟩ = some (.int .i64 0) := (blk_cell BK602.out 1).trans rfl; have hcz13_2 : w11.cell? ⟨gb602, 2, none⟩ = some (.int .i64 0) := (blk_cell BK602.out 2).trans rfl; have hcz13_3 : w11.cell? ⟨gb602, 3, none⟩ = some (.int .i64 0) := (blk_cell BK602.out 3).trans rfl; have hcz13_4 : w11.cell? ⟨gb602, 4, none⟩ = some (.int .i64 0) := (blk_cell BK602.out 4).trans rfl; have hcz13_5 : w11.cell? ⟨gb602, 5, none⟩ = some (.int .i64 0) := (blk_cell BK602.out 5).trans rfl; have hcz13_6 : w11.cell? ⟨gb602, 6, none⟩ = some (.int .i64 0) := (blk_cell BK602.out 6).trans rfl; have hcz13_7 : w11.cell? ⟨gb602, 7, none⟩ = some (.int .i64 0) := (blk_cell BK602.out 7).trans rfl; have hcz13_8 : w11.cell? ⟨gb602, 8, none⟩ = some (.int .i64 0) := (blk_cell BK602.out 8).trans rfl; have hfz13_0 := blk_frozen BK602.out 0; have hfz13_1 := blk_frozen BK602.out 1; have hfz13_2 := blk_frozen BK602.out 2; have hfz13_3 := blk_frozen BK602.out 3; have hfz13_4 := blk_frozen BK602.out 4; have hfz13_5 := blk_frozen BK602.out 5; have hfz13_6 := blk_frozen BK602.out 6; have hfz13_7 := blk_frozen BK602.out 7; have hfz13_8 := blk_frozen BK602.out 8))
       go_ret
       exact ⟨by first | rfl | (simp [errW_none, errW_some] <;> rfl) | (simp [*, errW_none, errW_some] <;> rfl), by repeat (first | (with_reducible first | exact HB.out | apply below_alloc | apply pw_below_drewN | apply below_drew1 | refine below_set ?_ GE600.out | refine below_set ?_ GE602.out) | exact HB.out)⟩
     ·
      rw [if_neg c6] at H
      exact absurd H (by simp)
    ·
     rw [if_neg c5] at H
     exact absurd H (by simp)
   ·
    rw [if_neg c4] at H
    have c4b0 : decide (x8_1 < (l0_1.length : Int)) = false := decide_eq_false c4
    clear c4
    obtain rfl := Option.some.inj H
    go_wp2
    go_ret
    exact ⟨by first | rfl | (simp [errW_none, errW_some] <;> rfl) | (simp [*, errW_none, errW_some] <;> rfl), by repeat (first | (with_reducible first | exact HB.out | apply below_alloc | apply pw_below_drewN | apply below_drew1 | refine below_set ?_ GE600.out) | exact HB.out)⟩

end Go.Proofs.Ytoncignjcgjhhaa.Q
