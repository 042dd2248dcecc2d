/- Contracts of functions of the seat's program: each Go function's Lean function and its walk, written by a program of this session over the kit's print. Not trusted: Lean checks it. -/
import Derived.Test.YtoncignjcgjhhaaZGA
import Derived.Test.YtoncignjcgjhhaaZK
set_option linter.unusedVariables false
set_option linter.unusedSimpArgs false
namespace Go.Proofs.Ytoncignjcgjhhaa.Q
open Go.RowKit Go.Proofs.YtoncignjcgjhhaaW.PrintWords Go.Proofs.YtoncignjcgjhhaaW.PrintLast Go.Proofs.YtoncignjcgjhhaaW.PrintMore
attribute [local go_sem] max2_int min2_int max_two min_two max_three min_three max_four min_four   -- for this text's walks alone
set_option linter.unusedVariables false
set_option linter.unusedSimpArgs false

/-! ### tenorref6_moves: function 87 -/
def tenorref6_moves.l0 : Nat → Int → Int → List (S63) → Option (Bool)
  | 0, _, _, _ => none
  | k + 1, x3, x640000, x640001 => if x3 < (x640001.length : Int) then (if 0 ≤ x3 then (if ((rd_T63 x640001 x3).f8) = 0 then (tenorref6_moves.l0 k (wrap64 (x3 + 1)) x640000 x640001) else (some true)) else (none)) else (some false)
def tenorref6_moves.f (k : Nat) (a0_0 : Int) (l0_1 : List (S63)) : Option (Bool) := tenorref6_moves.l0 k 0 a0_0 l0_1
theorem tenorref6_moves.mono_l : ∀ k, (∀ y0 y1 y2, LeO (tenorref6_moves.l0 k y0 y1 y2) (tenorref6_moves.l0 (k + 1) y0 y1 y2))
 | 0 => fun _ _ _ r h => by simp [tenorref6_moves.l0] at h
 | k + 1 => by
  have ih0 := tenorref6_moves.mono_l k
  ·
   intro y0 y1 y2
   unfold tenorref6_moves.l0
   repeat' first
   | (with_reducible exact ih0 _ _ _)
   | (with_reducible exact LeO.refl _)
   | (with_reducible exact LeO.none _)
   | (with_reducible refine LeO.ite ?_ ?_)
   | (with_reducible refine LeO.bind ?_ (fun _ => ?_))
   | exact ih0 _ _ _
   | exact LeO.none _
   | refine LeO.ite ?_ ?_
   | refine LeO.bind ?_ (fun _ => ?_)
theorem tenorref6_moves.mono : ∀ a0 a1 k, LeO (tenorref6_moves.f k a0 a1) (tenorref6_moves.f (k + 1) a0 a1) := by
 intro a0 a1 k
 have ih0 := tenorref6_moves.mono_l k
 unfold tenorref6_moves.f
 repeat' first
   | (with_reducible exact ih0 _ _ _)
   | (with_reducible exact LeO.refl _)
   | (with_reducible exact LeO.none _)
   | (with_reducible refine LeO.ite ?_ ?_)
   | (with_reducible refine LeO.bind ?_ (fun _ => ?_))
   | exact ih0 _ _ _
   | exact LeO.none _
   | refine LeO.ite ?_ ?_
   | refine LeO.bind ?_ (fun _ => ?_)
set_option maxHeartbeats 8000000 in
set_option maxRecDepth 100000 in
theorem tenorref6_moves.calls (k : Nat) (a0_0 : Int) (A0_1 : Option Addr) (c0_1 : Nat) (l0_1 : List (S63)) (r : Bool) (w : World) (hr0_1 : Kd.C k63 w A0_1 l0_1.length l0_1) (hc0_1 : l0_1.length ≤ c0_1) (h : tenorref6_moves.f k a0_0 l0_1 = some r) :
  Calls Try.prog 87 #[.agg #[.int .i64 a0_0, .slice A0_1 l0_1.length c0_1]] w fun e w' => e = .returned (.bool r) ∧ Below w.heap.size w w' := by
 have hu24 := Try.underlying24;have HR0_1 := Aside0.mk hr0_1;have HC0_1 := Aside0.mk hc0_1;clear hr0_1 hc0_1
 have HB := Aside0.mk (Below.refl w.heap.size w)
 have H : (tenorref6_moves.l0 k 0 a0_0 l0_1) = some r := h
 clear h;have H' := Aside0.mk H;clear H
 go_enter Try.func87, Try.ntmps87
 go_wp2_with (first | ((with_reducible refine gate_dst (N := 1) rfl ?_); refine box_event ?hg (N := 1) ?hd (cs := #[.int .i64 a0_0, .slice A0_1 l0_1.length c0_1]) (t := 24) ?hr ?_; (case hd => rfl); (case hg => rfl); (case hr => first | (go_simp; done) | (go_simp; rfl)); intro gb639 hg w2 hbox hb; have n0_ := Aside0.mk (below_step (by repeat (first | (with_reducible first | exact HB.out | apply below_alloc | apply pw_below_drewN | apply below_drew1) | exact HB.out)) hb); have n1_ := Aside0.mk (hbox); have n2_ := Aside0.mk ((by rw [hg]; exact (below_size (by repeat (first | (with_reducible first | exact HB.out | apply below_alloc | apply pw_below_drewN | apply below_drew1) | exact HB.out))) : w.heap.size ≤ gb639)); have n3_ := Aside0.mk ((by rw [hg]; exact (below_size (by repeat (first | (with_reducible first | exact HB.out | apply below_alloc | apply pw_below_drewN | apply below_drew1) | exact HB.out))) : w.heap.size ≤ gb639)); clear HB; have HB := n0_; have BK639 := n1_; have GW639 := n2_; have GE639 := n3_; clear n0_ n1_ n2_ n3_; clear hb hbox hg))
 go_loopg [3] k (fun kq v3 w' => ∃ (x3_1 : Int), v3 = .int .i64 x3_1 ∧ Aside0 (tenorref6_moves.l0 kq x3_1 a0_0 l0_1 = some r) ∧ Aside0 (kq ≤ k) ∧ Aside0 (w'.heap[gb639]? = some (.cells #[.int .i64 a0_0, (.slice A0_1 l0_1.length c0_1)] 24 (0, 0))) ∧ Aside0 (Below w.heap.size w w'))
 case atStart => exact ⟨(0), (by first | rfl | (simp; done) | (simp [*]; done)), H', ⟨Nat.le_refl _⟩, ⟨by (with_reducible repeat (first | refine blk_drewN ?_ _ | refine blk_drew ?_ | refine blk_alloc ?_ _)); exact BK639.out⟩, ⟨by repeat (first | (with_reducible first | exact HB.out | apply below_alloc | apply pw_below_drewN | apply below_drew1 | refine below_set ?_ GE639.out) | exact HB.out)⟩⟩
 case round =>
  clear H'
  obtain ⟨x3_1, rfl, HA, HK1, BK639, HB⟩ := hrel
  cases gk with
  | zero => exact absurd HA.out (by simp [tenorref6_moves.l0])
  | succ k1 =>
   have H := HA.out;clear HA
   simp only [tenorref6_moves.l0] at H
   by_cases c3 : x3_1 < (l0_1.length : Int)
   ·
    rw [if_pos c3] at H
    have c3b0 : decide (x3_1 < (l0_1.length : Int)) = true := decide_eq_true c3
    clear c3
    by_cases c4 : 0 ≤ x3_1
    ·
     rw [if_pos c4] at H
     have c4b0 : decide (0 ≤ x3_1) = true := decide_eq_true c4
     clear c4
     by_cases c5 : ((rd_T63 l0_1 x3_1).f8) = 0
     ·
      rw [if_pos c5] at H
      have c5b0 : (((rd_T63 l0_1 x3_1).f8) == 0) = true := beq_iff_eq.mpr c5
      have c5b1 : (((rd_T63 l0_1 x3_1).f8) != 0) = false := bne_eq_false_iff_eq.mpr c5
      clear c5;have H' := Aside0.mk H;clear H
      have hcz6_0 : wr.cell? ⟨gb639, 0, none⟩ = some (.int .i64 a0_0) := (blk_cell BK639.out 0).trans rfl
      have hcz6_1 : wr.cell? ⟨gb639, 1, none⟩ = some (.slice A0_1 l0_1.length c0_1) := (blk_cell BK639.out 1).trans rfl
      have hfz6_0 := blk_frozen BK639.out 0;have hfz6_1 := blk_frozen BK639.out 1
      have p640 : 0 ≤ (x3_1 : Int) := of_decide_eq_true (by first | (with_reducible assumption) | assumption)
      have q640 : x3_1 < (l0_1.length : Int) := of_decide_eq_true (by first | (with_reducible assumption) | assumption)
      obtain ⟨ad640, e640, hx640_0, hx640_1, hx640_2, hx640_3, hx640_4, hx640_5, hx640_6, hx640_7, hx640_8⟩ := at_T63 HR0_1.out x3_1 p640 q640
      cases e640
      replace hx640_0 := (HB.out.cell (World.block_lt_of_cell? w _ hx640_0)).trans hx640_0
      replace hx640_1 := (HB.out.cell (World.block_lt_of_cell? w _ hx640_1)).trans hx640_1
      replace hx640_2 := (HB.out.cell (World.block_lt_of_cell? w _ hx640_2)).trans hx640_2
      replace hx640_3 := (HB.out.cell (World.block_lt_of_cell? w _ hx640_3)).trans hx640_3
      replace hx640_4 := (HB.out.cell (World.block_lt_of_cell? w _ hx640_4)).trans hx640_4
      replace hx640_5 := (HB.out.cell (World.block_lt_of_cell? w _ hx640_5)).trans hx640_5
      replace hx640_6 := (HB.out.cell (World.block_lt_of_cell? w _ hx640_6)).trans hx640_6
      replace hx640_7 := (HB.out.cell (World.block_lt_of_cell? w _ hx640_7)).trans hx640_7
      replace hx640_8 := (HB.out.cell (World.block_lt_of_cell? w _ hx640_8)).trans hx640_8
      replace p640 := eq_true p640;replace q640 := eq_true q640
      go_wp2
      go_roundg k1
      case measure => have := HK1.out; omega
      case rel => exact ⟨(wrap64 (x3_1 + 1)), (by first | rfl | (simp; done) | (simp [*]; done)), H', ⟨by have := HK1.out; omega⟩, ⟨by (with_reducible repeat (first | refine blk_drewN ?_ _ | refine blk_drew ?_ | refine blk_alloc ?_ _)); exact BK639.out⟩, ⟨by repeat (first | (with_reducible first | exact HB.out | apply below_alloc | apply pw_below_drewN | apply below_drew1 | refine below_set ?_ GE639.out) | exact HB.out)⟩⟩
     ·
      rw [if_neg c5] at H
      have c5b0 : (((rd_T63 l0_1 x3_1).f8) == 0) = false := beq_eq_false_iff_ne.mpr c5
      have c5b1 : (((rd_T63 l0_1 x3_1).f8) != 0) = true := bne_iff_ne.mpr c5
      obtain rfl := Option.some.inj H
      have hcz7_0 : wr.cell? ⟨gb639, 0, none⟩ = some (.int .i64 a0_0) := (blk_cell BK639.out 0).trans rfl
      have hcz7_1 : wr.cell? ⟨gb639, 1, none⟩ = some (.slice A0_1 l0_1.length c0_1) := (blk_cell BK639.out 1).trans rfl
      have hfz7_0 := blk_frozen BK639.out 0;have hfz7_1 := blk_frozen BK639.out 1
      have p640 : 0 ≤ (x3_1 : Int) := of_decide_eq_true (by first | (with_reducible assumption) | assumption)
      have q640 : x3_1 < (l0_1.length : Int) := of_decide_eq_true (by first | (with_reducible assumption) | assumption)
      obtain ⟨ad640, e640, hx640_0, hx640_1, hx640_2, hx640_3, hx640_4, hx640_5, hx640_6, hx640_7, hx640_8⟩ := at_T63 HR0_1.out x3_1 p640 q640
      cases e640
      replace hx640_0 := (HB.out.cell (World.block_lt_of_cell? w _ hx640_0)).trans hx640_0
      replace hx640_1 := (HB.out.cell (World.block_lt_of_cell? w _ hx640_1)).trans hx640_1
      replace hx640_2 := (HB.out.cell (World.block_lt_of_cell? w _ hx640_2)).trans hx640_2
      replace hx640_3 := (HB.out.cell (World.block_lt_of_cell? w _ hx640_3)).trans hx640_3
      replace hx640_4 := (HB.out.cell (World.block_lt_of_cell? w _ hx640_4)).trans hx640_4
      replace hx640_5 := (HB.out.cell (World.block_lt_of_cell? w _ hx640_5)).trans hx640_5
      replace hx640_6 := (HB.out.cell (World.block_lt_of_cell? w _ hx640_6)).trans hx640_6
      replace hx640_7 := (HB.out.cell (World.block_lt_of_cell? w _ hx640_7)).trans hx640_7
      replace hx640_8 := (HB.out.cell (World.block_lt_of_cell? w _ hx640_8)).trans hx640_8
      replace p640 := eq_true p640;replace q640 := eq_true q640
      go_wp2
      go_ret
      exact ⟨by first | rfl | (simp [errW_none, errW_some] <;> rfl) | (simp [*, errW_none, errW_some] <;> rfl), by repeat (first | (with_reducible first | exact HB.out | apply below_alloc | apply pw_below_drewN | apply below_drew1 | refine below_set ?_ GE639.out) | exact HB.out)⟩
    ·
     rw [if_neg c4] at H
     exact absurd H (by simp)
   ·
    rw [if_neg c3] at H
    have c3b0 : decide (x3_1 < (l0_1.length : Int)) = false := decide_eq_false c3
    clear c3
    obtain rfl := Option.some.inj H
    have hcz8_0 : wr.cell? ⟨gb639, 0, none⟩ = some (.int .i64 a0_0) := (blk_cell BK639.out 0).trans rfl
    have hcz8_1 : wr.cell? ⟨gb639, 1, none⟩ = some (.slice A0_1 l0_1.length c0_1) := (blk_cell BK639.out 1).trans rfl
    have hfz8_0 := blk_frozen BK639.out 0;have hfz8_1 := blk_frozen BK639.out 1
    go_wp2
    go_ret
    exact ⟨by first | rfl | (simp [errW_none, errW_some] <;> rfl) | (simp [*, errW_none, errW_some] <;> rfl), by repeat (first | (with_reducible first | exact HB.out | apply below_alloc | apply pw_below_drewN | apply below_drew1 | refine below_set ?_ GE639.out) | exact HB.out)⟩

end Go.Proofs.Ytoncignjcgjhhaa.Q
