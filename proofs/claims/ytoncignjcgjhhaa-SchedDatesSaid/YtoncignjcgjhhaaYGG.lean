/- Contracts and facts of functions of the program (calendar, dates and their documents), joined in one text by a program of this session. No condition but what each theorem states. -/
import Derived.Test.YtoncignjcgjhhaaYGA
import Derived.Test.YtoncignjcgjhhaaYGE
import Derived.Test.YtoncignjcgjhhaaYGC
import Derived.Test.YtoncignjcgjhhaaYGF
import Derived.Test.YtoncignjcgjhhaaYGD
import Derived.Maps.Views
set_option linter.unusedVariables false
set_option linter.unusedSimpArgs false
namespace Go.Proofs.Ytoncignjcgjhhaa.Q
open Go.RowKit Go.Proofs.YtoncignjcgjhhaaW.PrintWords Go.Proofs.YtoncignjcgjhhaaW.PrintLast Go.Proofs.YtoncignjcgjhhaaW.PrintMore
attribute [local go_sem] max2_int min2_int max_two min_two max_three min_three max_four min_four   -- for this text's walks alone
def tenorref5_Month.j0 : Nat → Int → Bool → Int → Int → Int → Option (Int × Int × Bool)
  | 0, _, _, _, _, _ => none
  | k + 1, x1, x13, x780000, x780001, x780002 => if x13 = true then (some (0, 0, false)) else (if (wrap64 ((wrap64 ((wrap64 ((wrap64 (12 * x780000)) + x780001)) - 1)) + x1)) < 22800 then (some (0, 0, false)) else (if (wrap64 ((wrap64 ((wrap64 ((wrap64 (12 * x780000)) + x780001)) - 1)) + x1)) > 26399 then (some (0, 0, false)) else (some (wrap64 (Int.tdiv (wrap64 ((wrap64 ((wrap64 ((wrap64 (12 * x780000)) + x780001)) - 1)) + x1)) 12), wrap64 ((Int.tmod (wrap64 ((wrap64 ((wrap64 ((wrap64 (12 * x780000)) + x780001)) - 1)) + x1)) 12) + 1), true))))
def tenorref5_Month.f (k : Nat) (a0_0 : Int) (a0_1 : Int) (a0_2 : Int) (a1 : Int) : Option (Int × Int × Bool) := if a1 < (-4000) then (tenorref5_Month.j0 k a1 true a0_0 a0_1 a0_2) else (tenorref5_Month.j0 k a1 (decide (a1 > 4000)) a0_0 a0_1 a0_2)
theorem tenorref5_Month.mono_l : ∀ k, (∀ y0 y1 y2 y3 y4, LeO (tenorref5_Month.j0 k y0 y1 y2 y3 y4) (tenorref5_Month.j0 (k + 1) y0 y1 y2 y3 y4))
 | 0 => fun _ _ _ _ _ r h => by simp [tenorref5_Month.j0] at h
 | k + 1 => by
  have ih0 := tenorref5_Month.mono_l k
  ·
   intro y0 y1 y2 y3 y4
   unfold tenorref5_Month.j0
   repeat' first
   | (with_reducible exact ih0 _ _ _ _ _)
   | (with_reducible exact LeO.refl _)
   | (with_reducible exact LeO.none _)
   | (with_reducible refine LeO.ite ?_ ?_)
   | (with_reducible refine LeO.bind ?_ (fun _ => ?_))
   | exact ih0 _ _ _ _ _
   | exact LeO.none _
   | refine LeO.ite ?_ ?_
   | refine LeO.bind ?_ (fun _ => ?_)
theorem tenorref5_Month.mono : ∀ a0 a1 a2 a3 k, LeO (tenorref5_Month.f k a0 a1 a2 a3) (tenorref5_Month.f (k + 1) a0 a1 a2 a3) := by
 intro a0 a1 a2 a3 k
 have ih0 := tenorref5_Month.mono_l k
 unfold tenorref5_Month.f
 repeat' first
   | (with_reducible exact ih0 _ _ _ _ _)
   | (with_reducible exact LeO.refl _)
   | (with_reducible exact LeO.none _)
   | (with_reducible refine LeO.ite ?_ ?_)
   | (with_reducible refine LeO.bind ?_ (fun _ => ?_))
   | exact ih0 _ _ _ _ _
   | exact LeO.none _
   | refine LeO.ite ?_ ?_
   | refine LeO.bind ?_ (fun _ => ?_)
set_option maxHeartbeats 8000000 in
set_option maxRecDepth 100000 in
theorem tenorref5_Month.calls (k : Nat) (a0_0 : Int) (a0_1 : Int) (a0_2 : Int) (a1 : Int) (r1 : Int) (r2 : Int) (r3 : Bool) (w : World) (h : tenorref5_Month.f k a0_0 a0_1 a0_2 a1 = some (r1, r2, r3)) :
  Calls Try.prog 115 #[.agg #[.int .i64 a0_0, .int .i64 a0_1, .int .i64 a0_2], .int .i64 a1] w fun e w' => e = .returned (.tuple #[.int .i64 r1, .int .i64 r2, .bool r3]) ∧ Below w.heap.size w w' := by
 have hu115 := Try.underlying115
 have HB := Aside0.mk (Below.refl w.heap.size w)
 have H : (if a1 < (-4000) then (tenorref5_Month.j0 k a1 true a0_0 a0_1 a0_2) else (tenorref5_Month.j0 k a1 (decide (a1 > 4000)) a0_0 a0_1 a0_2)) = some (r1, r2, r3) := h
 clear h;have HC3 := Aside0.mk H;clear H
 go_enter Try.func115, Try.ntmps115
 go_upto_region 1 with (first | ((with_reducible refine gate_dst (N := 2) rfl ?_); refine box_event ?hg (N := 2) ?hd (cs := #[.int .i64 a0_0, .int .i64 a0_1, .int .i64 a0_2]) (t := 115) ?hr ?_; (case hd => rfl); (case hg => rfl); (case hr => first | (go_simp; done) | (go_simp; rfl)); intro gb779 hg w4 hbox hb; have n0_ := Aside0.mk (below_step (by repeat (first | (with_reducible first | exact HB.out | apply below_alloc | apply pw_below_drewN | apply below_drew1) | exact HB.out)) hb); have n1_ := Aside0.mk (hbox); have n2_ := Aside0.mk ((by rw [hg]; exact (below_size (by repeat (first | (with_reducible first | exact HB.out | apply below_alloc | apply pw_below_drewN | apply below_drew1) | exact HB.out))) : w.heap.size ≤ gb779)); have n3_ := Aside0.mk ((by rw [hg]; exact (below_size (by repeat (first | (with_reducible first | exact HB.out | apply below_alloc | apply pw_below_drewN | apply below_drew1) | exact HB.out))) : w.heap.size ≤ gb779)); clear HB; have HB := n0_; have BK779 := n1_; have GW779 := n2_; have GE779 := n3_; clear n0_ n1_ n2_ n3_; clear hb hbox hg))
 (try simp only [Act.put, List.setIfInBounds_toArray, List.set_cons_zero, List.set_cons_succ])
 go_cut [13] (fun v13 wc => ∃ (kq : Nat) (x13_2 : Bool), v13 = .bool x13_2 ∧ Aside0 (tenorref5_Month.j0 kq a1 x13_2 a0_0 a0_1 a0_2 = some (r1, r2, r3)) ∧ Aside0 (kq ≤ k) ∧ Aside0 (wc.heap[gb779]? = some (.cells #[.int .i64 a0_0, .int .i64 a0_1, .int .i64 a0_2] 115 (0, 0))) ∧ Aside0 (Below w.heap.size w wc))
 case first =>
  have H := HC3.out;clear HC3
  by_cases c5 : a1 < (-4000)
  ·
   rw [if_pos c5] at H
   have c5b0 : decide (a1 < (-4000)) = true := decide_eq_true c5
   clear c5
   (first | rw [c5b0] | (simp only [i64_w, i32_w]; rw [c5b0]) | skip)
   have H' := Aside0.mk H;clear H
   go_wp2
   go_meet
   case rel => exact ⟨_, (true), (by first | rfl | (simp; done) | (simp [*]; done)), H', ⟨by first | omega | exact Nat.le_refl _⟩, ⟨by (with_reducible repeat (first | refine blk_drewN ?_ _ | refine blk_drew ?_ | refine blk_alloc ?_ _)); exact BK779.out⟩, ⟨by repeat (first | (with_reducible first | exact HB.out | apply below_alloc | apply pw_below_drewN | apply below_drew1 | refine below_set ?_ GE779.out) | exact HB.out)⟩⟩
  ·
   rw [if_neg c5] at H
   have c5b0 : decide (a1 < (-4000)) = false := decide_eq_false c5
   clear c5
   (first | rw [c5b0] | (simp only [i64_w, i32_w]; rw [c5b0]) | skip)
   have H' := Aside0.mk H;clear H
   go_wp2
   go_meet
   case rel => exact ⟨_, (decide (a1 > 4000)), (by first | rfl | (simp; done) | (simp [*]; done)), H', ⟨by first | omega | exact Nat.le_refl _⟩, ⟨by (with_reducible repeat (first | refine blk_drewN ?_ _ | refine blk_drew ?_ | refine blk_alloc ?_ _)); exact BK779.out⟩, ⟨by repeat (first | (with_reducible first | exact HB.out | apply below_alloc | apply pw_below_drewN | apply below_drew1 | refine below_set ?_ GE779.out) | exact HB.out)⟩⟩
 case rest =>
  clear HC3
  obtain ⟨kq, x13_2, rfl, HA, HJ2, BK779, HB⟩ := hcut
  cases kq with
  | zero => exact absurd HA.out (by simp [tenorref5_Month.j0])
  | succ kj2 =>
   have H := HA.out;clear HA
   simp only [tenorref5_Month.j0] at H
   by_cases c6 : x13_2 = true
   ·
    subst c6
    have H1 : (some (0, 0, false)) = some (r1, r2, r3) := by rw [if_pos rfl] at H; exact H
    clear H;have H := H1;clear H1
    simp only [Option.some.injEq, Prod.mk.injEq] at H
    obtain ⟨rfl, rfl, rfl⟩ := H
    go_wp2
    go_ret3
    exact ⟨by first | rfl | (simp [errW_none, errW_some] <;> rfl) | (simp [*, errW_none, errW_some] <;> rfl), by repeat (first | (with_reducible first | exact HB.out | apply below_alloc | apply pw_below_drewN | apply below_drew1 | refine below_set ?_ GE779.out) | exact HB.out)⟩
   ·
    replace c6 := Bool.eq_false_iff.mpr c6;subst c6
    have H1 : (if (wrap64 ((wrap64 ((wrap64 ((wrap64 (12 * a0_0)) + a0_1)) - 1)) + a1)) < 22800 then (some (0, 0, false)) else (if (wrap64 ((wrap64 ((wrap64 ((wrap64 (12 * a0_0)) + a0_1)) - 1)) + a1)) > 26399 then (some (0, 0, false)) else (some (wrap64 (Int.tdiv (wrap64 ((wrap64 ((wrap64 ((wrap64 (12 * a0_0)) + a0_1)) - 1)) + a1)) 12), wrap64 ((Int.tmod (wrap64 ((wrap64 ((wrap64 ((wrap64 (12 * a0_0)) + a0_1)) - 1)) + a1)) 12) + 1), true)))) = some (r1, r2, r3) := by rw [if_neg (show ¬ (false = true) by decide)] at H; exact H
    clear H;have H := H1;clear H1
    by_cases c7 : (wrap64 ((wrap64 ((wrap64 ((wrap64 (12 * a0_0)) + a0_1)) - 1)) + a1)) < 22800
    ·
     rw [if_pos c7] at H
     have c7b0 : decide ((wrap64 ((wrap64 ((wrap64 ((wrap64 (12 * a0_0)) + a0_1)) - 1)) + a1)) < 22800) = true := decide_eq_true c7
     clear c7
     simp only [Option.some.injEq, Prod.mk.injEq] at H
     obtain ⟨rfl, rfl, rfl⟩ := H
     have hcz8_0 : wc.cell? ⟨gb779, 0, none⟩ = some (.int .i64 a0_0) := (blk_cell BK779.out 0).trans rfl
     have hcz8_1 : wc.cell? ⟨gb779, 1, none⟩ = some (.int .i64 a0_1) := (blk_cell BK779.out 1).trans rfl
     have hcz8_2 : wc.cell? ⟨gb779, 2, none⟩ = some (.int .i64 a0_2) := (blk_cell BK779.out 2).trans rfl
     have hfz8_0 := blk_frozen BK779.out 0;have hfz8_1 := blk_frozen BK779.out 1;have hfz8_2 := blk_frozen BK779.out 2
     go_wp2
     go_ret3
     exact ⟨by first | rfl | (simp [errW_none, errW_some] <;> rfl) | (simp [*, errW_none, errW_some] <;> rfl), by repeat (first | (with_reducible first | exact HB.out | apply below_alloc | apply pw_below_drewN | apply below_drew1 | refine below_set ?_ GE779.out) | exact HB.out)⟩
    ·
     rw [if_neg c7] at H
     have c7b0 : decide ((wrap64 ((wrap64 ((wrap64 ((wrap64 (12 * a0_0)) + a0_1)) - 1)) + a1)) < 22800) = false := decide_eq_false c7
     clear c7
     by_cases c9 : (wrap64 ((wrap64 ((wrap64 ((wrap64 (12 * a0_0)) + a0_1)) - 1)) + a1)) > 26399
     ·
      rw [if_pos c9] at H
      have c9b0 : decide (26399 < (wrap64 ((wrap64 ((wrap64 ((wrap64 (12 * a0_0)) + a0_1)) - 1)) + a1))) = true := decide_eq_true c9
      clear c9
      simp only [Option.some.injEq, Prod.mk.injEq] at H
      obtain ⟨rfl, rfl, rfl⟩ := H
      have hcz10_0 : wc.cell? ⟨gb779, 0, none⟩ = some (.int .i64 a0_0) := (blk_cell BK779.out 0).trans rfl
      have hcz10_1 : wc.cell? ⟨gb779, 1, none⟩ = some (.int .i64 a0_1) := (blk_cell BK779.out 1).trans rfl
      have hcz10_2 : wc.cell? ⟨gb779, 2, none⟩ = some (.int .i64 a0_2) := (blk_cell BK779.out 2).trans rfl
      have hfz10_0 := blk_frozen BK779.out 0;have hfz10_1 := blk_frozen BK779.out 1;have hfz10_2 := blk_frozen BK779.out 2
      go_wp2
      go_ret3
      exact ⟨by first | rfl | (simp [errW_none, errW_some] <;> rfl) | (simp [*, errW_none, errW_some] <;> rfl), by repeat (first | (with_reducible first | exact HB.out | apply below_alloc | apply pw_below_drewN | apply below_drew1 | refine below_set ?_ GE779.out) | exact HB.out)⟩
     ·
      rw [if_neg c9] at H
      have c9b0 : decide (26399 < (wrap64 ((wrap64 ((wrap64 ((wrap64 (12 * a0_0)) + a0_1)) - 1)) + a1))) = false := decide_eq_false c9
      clear c9
      simp only [Option.some.injEq, Prod.mk.injEq] at H
      obtain ⟨rfl, rfl, rfl⟩ := H
      have hcz11_0 : wc.cell? ⟨gb779, 0, none⟩ = some (.int .i64 a0_0) := (blk_cell BK779.out 0).trans rfl
      have hcz11_1 : wc.cell? ⟨gb779, 1, none⟩ = some (.int .i64 a0_1) := (blk_cell BK779.out 1).trans rfl
      have hcz11_2 : wc.cell? ⟨gb779, 2, none⟩ = some (.int .i64 a0_2) := (blk_cell BK779.out 2).trans rfl
      have hfz11_0 := blk_frozen BK779.out 0;have hfz11_1 := blk_frozen BK779.out 1;have hfz11_2 := blk_frozen BK779.out 2
      go_wp2
      go_ret3
      exact ⟨by first | rfl | (simp [errW_none, errW_some] <;> rfl) | (simp [*, errW_none, errW_some] <;> rfl), by repeat (first | (with_reducible first | exact HB.out | apply below_alloc | apply pw_below_drewN | apply below_drew1 | refine below_set ?_ GE779.out) | exact HB.out)⟩
def tenorref5_Months.j0 : Nat → Int → Int → Int → Bool → Option (Int × Int)
  | 0, _, _, _, _ => none
  | k + 1, x10, x11, x13, x47 => if x47 = true then ((tenorref5_length.f k x10 x11).bind fun t790 => ((tenorref5_Of.f k x10 x11 t790).bind fun bt791 => (some (bt791.1, bt791.2)))) else ((tenorref5_Of.f k x10 x11 x13).bind fun bt793 => (some (bt793.1, bt793.2)))
def tenorref5_Months.f (k : Nat) (a0 : Int) (a1 : Int) (a2 : Bool) : Option (Int × Int) := (tenorref5_Civil.f k a0).bind fun bt780 => (if bt780.2.2.2 = 0 then ((tenorref5_Month.f k bt780.1 bt780.2.1 bt780.2.2.1 a1).bind fun bt785 => (if bt785.2.2 = true then ((tenorref5_length.f k bt785.1 bt785.2.1).bind fun t788 => (if a2 = true then ((tenorref5_length.f k bt780.1 bt780.2.1).bind fun t789 => (tenorref5_Months.j0 k bt785.1 bt785.2.1 (mn bt780.2.2.1 t788) (bt780.2.2.1 == t789))) else (tenorref5_Months.j0 k bt785.1 bt785.2.1 (mn bt780.2.2.1 t788) false))) else (some (0, 51)))) else (some (0, bt780.2.2.2)))
theorem tenorref5_Months.mono_l : ∀ k, (∀ y0 y1 y2 y3, LeO (tenorref5_Months.j0 k y0 y1 y2 y3) (tenorref5_Months.j0 (k + 1) y0 y1 y2 y3))
 | 0 => fun _ _ _ _ r h => by simp [tenorref5_Months.j0] at h
 | k + 1 => by
  have ih0 := tenorref5_Months.mono_l k
  ·
   intro y0 y1 y2 y3
   unfold tenorref5_Months.j0
   repeat' first
   | (with_reducible exact ih0 _ _ _ _)
   | (with_reducible exact tenorref5_Civil.mono _ _)
   | (with_reducible exact tenorref5_Month.mono _ _ _ _ _)
   | (with_reducible exact tenorref5_Of.mono _ _ _ _)
   | (with_reducible exact tenorref5_length.mono _ _ _)
   | (with_reducible exact LeO.refl _)
   | (with_reducible exact LeO.none _)
   | (with_reducible refine LeO.ite ?_ ?_)
   | (with_reducible refine LeO.bind ?_ (fun _ => ?_))
   | exact ih0 _ _ _ _
   | exact tenorref5_Civil.mono _ _
   | exact tenorref5_Month.mono _ _ _ _ _
   | exact tenorref5_Of.mono _ _ _ _
   | exact tenorref5_length.mono _ _ _
   | exact LeO.none _
   | refine LeO.ite ?_ ?_
   | refine LeO.bind ?_ (fun _ => ?_)
theorem tenorref5_Months.mono : ∀ a0 a1 a2 k, LeO (tenorref5_Months.f k a0 a1 a2) (tenorref5_Months.f (k + 1) a0 a1 a2) := by
 intro a0 a1 a2 k
 have ih0 := tenorref5_Months.mono_l k
 unfold tenorref5_Months.f
 repeat' first
   | (with_reducible exact ih0 _ _ _ _)
   | (with_reducible exact tenorref5_Civil.mono _ _)
   | (with_reducible exact tenorref5_Month.mono _ _ _ _ _)
   | (with_reducible exact tenorref5_Of.mono _ _ _ _)
   | (with_reducible exact tenorref5_length.mono _ _ _)
   | (with_reducible exact LeO.refl _)
   | (with_reducible exact LeO.none _)
   | (with_reducible refine LeO.ite ?_ ?_)
   | (with_reducible refine LeO.bind ?_ (fun _ => ?_))
   | exact ih0 _ _ _ _
   | exact tenorref5_Civil.mono _ _
   | exact tenorref5_Month.mono _ _ _ _ _
   | exact tenorref5_Of.mono _ _ _ _
   | exact tenorref5_length.mono _ _ _
   | exact LeO.none _
   | refine LeO.ite ?_ ?_
   | refine LeO.bind ?_ (fun _ => ?_)
set_option maxHeartbeats 8000000 in
set_option maxRecDepth 100000 in
theorem tenorref5_Months.calls (k : Nat) (a0 : Int) (a1 : Int) (a2 : Bool) (r1 : Int) (r2 : Int) (w : World) (h : tenorref5_Months.f k a0 a1 a2 = some (r1, r2)) :
  Calls Try.prog 116 #[.int .i64 a0, .int .i64 a1, .bool a2] w fun e w' => e = .returned (.tuple #[.int .i64 r1, .int .i64 r2]) ∧ Below w.heap.size w w' := by
 have hu115 := Try.underlying115
 have HB := Aside0.mk (Below.refl w.heap.size w)
 have H : ((tenorref5_Civil.f k a0).bind fun bt780 => (if bt780.2.2.2 = 0 then ((tenorref5_Month.f k bt780.1 bt780.2.1 bt780.2.2.1 a1).bind fun bt785 => (if bt785.2.2 = true then ((tenorref5_length.f k bt785.1 bt785.2.1).bind fun t788 => (if a2 = true then ((tenorref5_length.f k bt780.1 bt780.2.1).bind fun t789 => (tenorref5_Months.j0 k bt785.1 bt785.2.1 (mn bt780.2.2.1 t788) (bt780.2.2.1 == t789))) else (tenorref5_Months.j0 k bt785.1 bt785.2.1 (mn bt780.2.2.1 t788) false))) else (some (0, 51)))) else (some (0, bt780.2.2.2)))) = some (r1, r2) := h
 clear h;replace H := Option.bind_eq_some_iff.mp H
 obtain ⟨⟨t780, t781, t782, t783⟩, A40, H⟩ := H
 replace H : (if t783 = 0 then ((tenorref5_Month.f k t780 t781 t782 a1).bind fun bt785 => (if bt785.2.2 = true then ((tenorref5_length.f k bt785.1 bt785.2.1).bind fun t788 => (if a2 = true then ((tenorref5_length.f k t780 t781).bind fun t789 => (tenorref5_Months.j0 k bt785.1 bt785.2.1 (mn t782 t788) (t782 == t789))) else (tenorref5_Months.j0 k bt785.1 bt785.2.1 (mn t782 t788) false))) else (some (0, 51)))) else (some (0, t783))) = some (r1, r2) := H
 have A4 := Aside0.mk A40;clear A40
 by_cases c5 : t783 = 0
 ·
  rw [if_pos c5] at H
  have c5b0 : (t783 == 0) = true := beq_iff_eq.mpr c5
  have c5b1 : (t783 != 0) = false := bne_eq_false_iff_eq.mpr c5
  clear c5;replace H := Option.bind_eq_some_iff.mp H
  obtain ⟨⟨t785, t786, t787⟩, A60, H⟩ := H
  replace H : (if t787 = true then ((tenorref5_length.f k t785 t786).bind fun t788 => (if a2 = true then ((tenorref5_length.f k t780 t781).bind fun t789 => (tenorref5_Months.j0 k t785 t786 (mn t782 t788) (t782 == t789))) else (tenorref5_Months.j0 k t785 t786 (mn t782 t788) false))) else (some (0, 51))) = some (r1, r2) := H
  have A6 := Aside0.mk A60;clear A60
  by_cases c7 : t787 = true
  ·
   subst c7
   have H1 : ((tenorref5_length.f k t785 t786).bind fun t788 => (if a2 = true then ((tenorref5_length.f k t780 t781).bind fun t789 => (tenorref5_Months.j0 k t785 t786 (mn t782 t788) (t782 == t789))) else (tenorref5_Months.j0 k t785 t786 (mn t782 t788) false))) = some (r1, r2) := by rw [if_pos rfl] at H; exact H
   clear H;have H := H1;clear H1;replace H := Option.bind_eq_some_iff.mp H
   obtain ⟨t788, A80, H⟩ := H
   replace H : (if a2 = true then ((tenorref5_length.f k t780 t781).bind fun t789 => (tenorref5_Months.j0 k t785 t786 (mn t782 t788) (t782 == t789))) else (tenorref5_Months.j0 k t785 t786 (mn t782 t788) false)) = some (r1, r2) := H
   have A8 := Aside0.mk A80;clear A80
   obtain ⟨ji9, hji9⟩ : ∃ j_ : Int, (mn t782 t788) = j_ := ⟨_, rfl⟩
   replace H : (if a2 = true then ((tenorref5_length.f k t780 t781).bind fun t789 => (tenorref5_Months.j0 k t785 t786 ji9 (t782 == t789))) else (tenorref5_Months.j0 k t785 t786 ji9 false)) = some (r1, r2) := by first | (rw [hji9] at H; exact H) | (simp only [hji9] at H ⊢; exact H)
   (try rw [hji9] at A4)
   (try rw [hji9] at A6)
   (try rw [hji9] at A8)
   have hji9_ : (if t788 < t782 then t788 else t782) = ji9 := hji9
   have HC10 := Aside0.mk H;clear H
   go_enter Try.func116, Try.ntmps116
   go_upto_region 8 with (first | (go_at_call 96; (with_reducible refine (tenorref5_Civil.calls k a0 t780 t781 t782 t783 _ A4.out).mono ?_); rintro e w11 ⟨rfl, hb⟩; have n0_ := Aside0.mk (below_step (by repeat (first | (with_reducible first | exact HB.out | apply below_alloc | apply pw_below_drewN | apply below_drew1) | exact HB.out)) hb); clear HB; have HB := n0_; clear n0_; (try clear hb); (try clear hb2); (try clear hk); (try clear hi)) | ((with_reducible refine gate_dst (N := 8) rfl ?_); refine box_event ?hg (N := 8) ?hd (cs := #[.int .i64 0, .int .i64 0, .int .i64 0]) (t := 115) ?hr ?_; (case hd => rfl); (case hg => rfl); (case hr => first | (go_simp; done) | (go_simp; rfl)); intro gb784 hg w12 hbox hb; have n0_ := Aside0.mk (below_step (by repeat (first | (with_reducible first | exact HB.out | apply below_alloc | apply pw_below_drewN | apply below_drew1) | exact HB.out)) hb); have n1_ := Aside0.mk (hbox); have n2_ := Aside0.mk ((by rw [hg]; exact (below_size (by repeat (first | (with_reducible first | exact HB.out | apply below_alloc | apply pw_below_drewN | apply below_drew1) | exact HB.out))) : w.heap.size ≤ gb784)); have n3_ := Aside0.mk ((by rw [hg]; exact (below_size (by repeat (first | (with_reducible first | exact HB.out | apply below_alloc | apply pw_below_drewN | apply below_drew1) | exact HB.out))) : w.heap.size ≤ gb784)); clear HB; have HB := n0_; have BK784 := n1_; have GW784 := n2_; have GE784 := n3_; clear n0_ n1_ n2_ n3_; clear hb hbox hg; have hcz13_0 : w12.cell? ⟨gb784, 0, none⟩ = some (.int .i64 0) := (blk_cell BK784.out 0).trans rfl; have hcz13_1 : w12.cell? ⟨gb784, 1, none⟩ = some (.int .i64 0) := (blk_cell BK784.out 1).trans rfl; have hcz13_2 : w12.cell? ⟨gb784, 2, none⟩ = some (.int .i64 0) := (blk_cell BK784.out 2).trans rfl; have hfz13_0 := blk_frozen BK784.out 0; have hfz13_1 := blk_frozen BK784.out 1; have hfz13_2 := blk_frozen BK784.out 2) | (go_at_call 115; (with_reducible refine (tenorref5_Month.calls k t780 t781 t782 a1 t785 t786 true _ A6.out).mono ?_); rintro e w14 ⟨rfl, hb⟩; have n0_ := Aside0.mk (blk_below (g := gb784) (o := .cells #[.int .i64 t780, .int .i64 t781, .int .i64 t782] 115 (0, 0)) (by (with_reducible repeat (first | refine blk_drewN ?_ _ | refine blk_drew ?_ | refine blk_alloc ?_ _)); refine blk_put (cs := #[.int .i64 t780, .int .i64 t781, .int .i64 0]) ?_ 2 _ rfl; (with_reducible repeat (first | refine blk_drewN ?_ _ | refine blk_drew ?_ | refine blk_alloc ?_ _)); refine blk_put (cs := #[.int .i64 t780, .int .i64 0, .int .i64 0]) ?_ 1 _ rfl; (with_reducible repeat (first | refine blk_drewN ?_ _ | refine blk_drew ?_ | refine blk_alloc ?_ _)); refine blk_put (cs := #[.int .i64 0, .int .i64 0, .int .i64 0]) ?_ 0 _ rfl; (with_reducible repeat (first | refine blk_drewN ?_ _ | refine blk_drew ?_ | refine blk_alloc ?_ _)); exact BK784.out) hb); have n1_ := Aside0.mk (below_step (by repeat (first | (with_reducible first | exact HB.out | apply below_alloc | apply pw_below_drewN | apply below_drew1 | refine below_set ?_ GE784.out) | exact HB.out)) hb); clear BK784; clear HB; have BK784 := n0_; have HB := n1_; clear n0_ n1_; (try clear hb); (try clear hb2); (try clear hk); (try clear hi); have hcz15_0 : w14.cell? ⟨gb784, 0, none⟩ = some (.int .i64 t780) := (blk_cell BK784.out 0).trans rfl; have hcz15_1 : w14.cell? ⟨gb784, 1, none⟩ = some (.int .i64 t781) := (blk_cell BK784.out 1).trans rfl; have hcz15_2 : w14.cell? ⟨gb784, 2, none⟩ = some (.int .i64 t782) := (blk_cell BK784.out 2).trans rfl; have hfz15_0 := blk_frozen BK784.out 0; have hfz15_1 := blk_frozen BK784.out 1; have hfz15_2 := blk_frozen BK784.out 2) | (go_at_call 124; (with_reducible refine (tenorref5_length.calls k t785 t786 t788 _ A8.out).mono ?_); rintro e w' ⟨rfl, ⟨nd, rfl⟩⟩; (try first | exact ⟨rfl, _, World.drewN_drewN _ _ _⟩ | exact ⟨rfl, _, Eq.trans (World.drewN_drewN _ _ _) (congrArg (World.drewN _) (Nat.add_assoc _ _ _))⟩)))
   repeat (go_quiet (first | (go_at_call 96; (with_reducible refine (tenorref5_Civil.calls k a0 t780 t781 t782 t783 _ A4.out).mono ?_); rintro e w11 ⟨rfl, hb⟩; have n0_ := Aside0.mk (below_step (by repeat (first | (with_reducible first | exact HB.out | apply below_alloc | apply pw_below_drewN | apply below_drew1) | exact HB.out)) hb); clear HB; have HB := n0_; clear n0_; (try clear hb); (try clear hb2); (try clear hk); (try clear hi)) | ((with_reducible refine gate_dst (N := 8) rfl ?_); refine box_event ?hg (N := 8) ?hd (cs := #[.int .i64 0, .int .i64 0, .int .i64 0]) (t := 115) ?hr ?_; (case hd => rfl); (case hg => rfl); (case hr => first | (go_simp; done) | (go_simp; rfl)); intro gb784 hg w12 hbox hb; have n0_ := Aside0.mk (below_step (by repeat (first | (with_reducible first | exact HB.out | apply below_alloc | apply pw_below_drewN | apply below_drew1) | exact HB.out)) hb); have n1_ := Aside0.mk (hbox); have n2_ := Aside0.mk ((by rw [hg]; exact (below_size (by repeat (first | (with_reducible first | exact HB.out | apply below_alloc | apply pw_below_drewN | apply below_drew1) | exact HB.out))) : w.heap.size ≤ gb784)); have n3_ := Aside0.mk ((by rw [hg]; exact (below_size (by repeat (first | (with_reducible first | exact HB.out | apply below_alloc | apply pw_below_drewN | apply below_drew1) | exact HB.out))) : w.heap.size ≤ gb784)); clear HB; have HB := n0_; have BK784 := n1_; have GW784 := n2_; have GE784 := n3_; clear n0_ n1_ n2_ n3_; clear hb hbox hg; have hcz13_0 : w12.cell? ⟨gb784, 0, none⟩ = some (.int .i64 0) := (blk_cell BK784.out 0).trans rfl; have hcz13_1 : w12.cell? ⟨gb784, 1, none⟩ = some (.int .i64 0) := (blk_cell BK784.out 1).trans rfl; have hcz13_2 : w12.cell? ⟨gb784, 2, none⟩ = some (.int .i64 0) := (blk_cell BK784.out 2).trans rfl; have hfz13_0 := blk_frozen BK784.out 0; have hfz13_1 := blk_frozen BK784.out 1; have hfz13_2 := blk_frozen BK784.out 2) | (go_at_call 115; (with_reducible refine (tenorref5_Month.calls k t780 t781 t782 a1 t785 t786 true _ A6.out).mono ?_); rintro e w14 ⟨rfl, hb⟩; have n0_ := Aside0.mk (blk_below (g := gb784) (o := .cells #[.int .i64 t780, .int .i64 t781, .int .i64 t782] 115 (0, 0)) (by (with_reducible repeat (first | refine blk_drewN ?_ _ | refine blk_drew ?_ | refine blk_alloc ?_ _)); refine blk_put (cs := #[.int .i64 t780, .int .i64 t781, .int .i64 0]) ?_ 2 _ rfl; (with_reducible repeat (first | refine blk_drewN ?_ _ | refine blk_drew ?_ | refine blk_alloc ?_ _)); refine blk_put (cs := #[.int .i64 t780, .int .i64 0, .int .i64 0]) ?_ 1 _ rfl; (with_reducible repeat (first | refine blk_drewN ?_ _ | refine blk_drew ?_ | refine blk_alloc ?_ _)); refine blk_put (cs := #[.int .i64 0, .int .i64 0, .int .i64 0]) ?_ 0 _ rfl; (with_reducible repeat (first | refine blk_drewN ?_ _ | refine blk_drew ?_ | refine blk_alloc ?_ _)); exact BK784.out) hb); have n1_ := Aside0.mk (below_step (by repeat (first | (with_reducible first | exact HB.out | apply below_alloc | apply pw_below_drewN | apply below_drew1 | refine below_set ?_ GE784.out) | exact HB.out)) hb); clear BK784; clear HB; have BK784 := n0_; have HB := n1_; clear n0_ n1_; (try clear hb); (try clear hb2); (try clear hk); (try clear hi); have hcz15_0 : w14.cell? ⟨gb784, 0, none⟩ = some (.int .i64 t780) := (blk_cell BK784.out 0).trans rfl; have hcz15_1 : w14.cell? ⟨gb784, 1, none⟩ = some (.int .i64 t781) := (blk_cell BK784.out 1).trans rfl; have hcz15_2 : w14.cell? ⟨gb784, 2, none⟩ = some (.int .i64 t782) := (blk_cell BK784.out 2).trans rfl; have hfz15_0 := blk_frozen BK784.out 0; have hfz15_1 := blk_frozen BK784.out 1; have hfz15_2 := blk_frozen BK784.out 2) | (go_at_call 124; (with_reducible refine (tenorref5_length.calls k t785 t786 t788 _ A8.out).mono ?_); rintro e w' ⟨rfl, ⟨nd, rfl⟩⟩; (try first | exact ⟨rfl, _, World.drewN_drewN _ _ _⟩ | exact ⟨rfl, _, Eq.trans (World.drewN_drewN _ _ _) (congrArg (World.drewN _) (Nat.add_assoc _ _ _))⟩))); go_upto_region 8 with (first | (go_at_call 96; (with_reducible refine (tenorref5_Civil.calls k a0 t780 t781 t782 t783 _ A4.out).mono ?_); rintro e w11 ⟨rfl, hb⟩; have n0_ := Aside0.mk (below_step (by repeat (first | (with_reducible first | exact HB.out | apply below_alloc | apply pw_below_drewN | apply below_drew1) | exact HB.out)) hb); clear HB; have HB := n0_; clear n0_; (try clear hb); (try clear hb2); (try clear hk); (try clear hi)) | ((with_reducible refine gate_dst (N := 8) rfl ?_); refine box_event ?hg (N := 8) ?hd (cs := #[.int .i64 0, .int .i64 0, .int .i64 0]) (t := 115) ?hr ?_; (case hd => rfl); (case hg => rfl); (case hr => first | (go_simp; done) | (go_simp; rfl)); intro gb784 hg w12 hbox hb; have n0_ := Aside0.mk (below_step (by repeat (first | (with_reducible first | exact HB.out | apply below_alloc | apply pw_below_drewN | apply below_drew1) | exact HB.out)) hb); have n1_ := Aside0.mk (hbox); have n2_ := Aside0.mk ((by rw [hg]; exact (below_size (by repeat (first | (with_reducible first | exact HB.out | apply below_alloc | apply pw_below_drewN | apply below_drew1) | exact HB.out))) : w.heap.size ≤ gb784)); have n3_ := Aside0.mk ((by rw [hg]; exact (below_size (by repeat (first | (with_reducible first | exact HB.out | apply below_alloc | apply pw_below_drewN | apply below_drew1) | exact HB.out))) : w.heap.size ≤ gb784)); clear HB; have HB := n0_; have BK784 := n1_; have GW784 := n2_; have GE784 := n3_; clear n0_ n1_ n2_ n3_; clear hb hbox hg; have hcz13_0 : w12.cell? ⟨gb784, 0, none⟩ = some (.int .i64 0) := (blk_cell BK784.out 0).trans rfl; have hcz13_1 : w12.cell? ⟨gb784, 1, none⟩ = some (.int .i64 0) := (blk_cell BK784.out 1).trans rfl; have hcz13_2 : w12.cell? ⟨gb784, 2, none⟩ = some (.int .i64 0) := (blk_cell BK784.out 2).trans rfl; have hfz13_0 := blk_frozen BK784.out 0; have hfz13_1 := blk_frozen BK784.out 1; have hfz13_2 := blk_frozen BK784.out 2) | (go_at_call 115; (with_reducible refine (tenorref5_Month.calls k t780 t781 t782 a1 t785 t786 true _ A6.out).mono ?_); rintro e w14 ⟨rfl, hb⟩; have n0_ := Aside0.mk (blk_below (g := gb784) (o := .cells #[.int .i64 t780, .int .i64 t781, .int .i64 t782] 115 (0, 0)) (by (with_reducible repeat (first | refine blk_drewN ?_ _ | refine blk_drew ?_ | refine blk_alloc ?_ _)); refine blk_put (cs := #[.int .i64 t780, .int .i64 t781, .int .i64 0]) ?_ 2 _ rfl; (with_reducible repeat (first | refine blk_drewN ?_ _ | refine blk_drew ?_ | refine blk_alloc ?_ _)); refine blk_put (cs := #[.int .i64 t780, .int .i64 0, .int .i64 0]) ?_ 1 _ rfl; (with_reducible repeat (first | refine blk_drewN ?_ _ | refine blk_drew ?_ | refine blk_alloc ?_ _)); refine blk_put (cs := #[.int .i64 0, .int .i64 0, .int .i64 0]) ?_ 0 _ rfl; (with_reducible repeat (first | refine blk_drewN ?_ _ | refine blk_drew ?_ | refine blk_alloc ?_ _)); exact BK784.out) hb); have n1_ := Aside0.mk (below_step (by repeat (first | (with_reducible first | exact HB.out | apply below_alloc | apply pw_below_drewN | apply below_drew1 | refine below_set ?_ GE784.out) | exact HB.out)) hb); clear BK784; clear HB; have BK784 := n0_; have HB := n1_; clear n0_ n1_; (try clear hb); (try clear hb2); (try clear hk); (try clear hi); have hcz15_0 : w14.cell? ⟨gb784, 0, none⟩ = some (.int .i64 t780) := (blk_cell BK784.out 0).trans rfl; have hcz15_1 : w14.cell? ⟨gb784, 1, none⟩ = some (.int .i64 t781) := (blk_cell BK784.out 1).trans rfl; have hcz15_2 : w14.cell? ⟨gb784, 2, none⟩ = some (.int .i64 t782) := (blk_cell BK784.out 2).trans rfl; have hfz15_0 := blk_frozen BK784.out 0; have hfz15_1 := blk_frozen BK784.out 1; have hfz15_2 := blk_frozen BK784.out 2) | (go_at_call 124; (with_reducible refine (tenorref5_length.calls k t785 t786 t788 _ A8.out).mono ?_); rintro e w' ⟨rfl, ⟨nd, rfl⟩⟩; (try first | exact ⟨rfl, _, World.drewN_drewN _ _ _⟩ | exact ⟨rfl, _, Eq.trans (World.drewN_drewN _ _ _) (congrArg (World.drewN _) (Nat.add_assoc _ _ _))⟩))))
   (try simp only [Act.put, List.setIfInBounds_toArray, List.set_cons_zero, List.set_cons_succ])
   go_cut [47] (fun v47 wc => ∃ (kq : Nat) (x47_9 : Bool), v47 = .bool x47_9 ∧ Aside0 (tenorref5_Months.j0 kq t785 t786 ji9 x47_9 = some (r1, r2)) ∧ Aside0 (kq ≤ k) ∧ Aside0 (wc.heap[gb784]? = some (.cells #[.int .i64 t780, .int .i64 t781, .int .i64 t782] 115 (0, 0))) ∧ Aside0 (Below w.heap.size w wc))
   case first =>
    have H := HC10.out;clear HC10
    by_cases c16 : a2 = true
    ·
     subst c16
     have H1 : ((tenorref5_length.f k t780 t781).bind fun t789 => (tenorref5_Months.j0 k t785 t786 ji9 (t782 == t789))) = some (r1, r2) := by rw [if_pos rfl] at H; exact H
     clear H;have H := H1;clear H1;replace H := Option.bind_eq_some_iff.mp H
     obtain ⟨t789, A170, H⟩ := H
     replace H : (tenorref5_Months.j0 k t785 t786 ji9 (t782 == t789)) = some (r1, r2) := H
     have A17 := Aside0.mk A170;clear A170;have H' := Aside0.mk H;clear H
     have hcz18_0 : w14.cell? ⟨gb784, 0, none⟩ = some (.int .i64 t780) := (blk_cell BK784.out 0).trans rfl
     have hcz18_1 : w14.cell? ⟨gb784, 1, none⟩ = some (.int .i64 t781) := (blk_cell BK784.out 1).trans rfl
     have hcz18_2 : w14.cell? ⟨gb784, 2, none⟩ = some (.int .i64 t782) := (blk_cell BK784.out 2).trans rfl
     have hfz18_0 := blk_frozen BK784.out 0;have hfz18_1 := blk_frozen BK784.out 1;have hfz18_2 := blk_frozen BK784.out 2
     go_wp2_with (first | (go_at_call 124; (with_reducible refine (tenorref5_length.calls k t780 t781 t789 _ A17.out).mono ?_); rintro e w' ⟨rfl, ⟨nd, rfl⟩⟩; (try first | exact ⟨rfl, _, World.drewN_drewN _ _ _⟩ | exact ⟨rfl, _, Eq.trans (World.drewN_drewN _ _ _) (congrArg (World.drewN _) (Nat.add_assoc _ _ _))⟩)))
     repeat (go_quiet (first | (go_at_call 124; (with_reducible refine (tenorref5_length.calls k t780 t781 t789 _ A17.out).mono ?_); rintro e w' ⟨rfl, ⟨nd, rfl⟩⟩; (try first | exact ⟨rfl, _, World.drewN_drewN _ _ _⟩ | exact ⟨rfl, _, Eq.trans (World.drewN_drewN _ _ _) (congrArg (World.drewN _) (Nat.add_assoc _ _ _))⟩))); try go_wp2_with (first | (go_at_call 124; (with_reducible refine (tenorref5_length.calls k t780 t781 t789 _ A17.out).mono ?_); rintro e w' ⟨rfl, ⟨nd, rfl⟩⟩; (try first | exact ⟨rfl, _, World.drewN_drewN _ _ _⟩ | exact ⟨rfl, _, Eq.trans (World.drewN_drewN _ _ _) (congrArg (World.drewN _) (Nat.add_assoc _ _ _))⟩))))
     go_meet
     case rel => exact ⟨_, ((t782 == t789)), (by first | rfl | (simp; done) | (simp [*]; done)), H', ⟨by first | omega | exact Nat.le_refl _⟩, ⟨by (with_reducible repeat (first | refine blk_drewN ?_ _ | refine blk_drew ?_ | refine blk_alloc ?_ _)); exact BK784.out⟩, ⟨by repeat (first | (with_reducible first | exact HB.out | apply below_alloc | apply pw_below_drewN | apply below_drew1 | refine below_set ?_ GE784.out) | exact HB.out)⟩⟩
    ·
     replace c16 := Bool.eq_false_iff.mpr c16;subst c16
     have H1 : (tenorref5_Months.j0 k t785 t786 ji9 false) = some (r1, r2) := by rw [if_neg (show ¬ (false = true) by decide)] at H; exact H
     clear H;have H := H1;clear H1;have H' := Aside0.mk H;clear H
     go_wp2
     repeat (go_quiet (fail); try go_wp2)
     go_meet
     case rel => exact ⟨_, (false), (by first | rfl | (simp; done) | (simp [*]; done)), H', ⟨by first | omega | exact Nat.le_refl _⟩, ⟨by (with_reducible repeat (first | refine blk_drewN ?_ _ | refine blk_drew ?_ | refine blk_alloc ?_ _)); exact BK784.out⟩, ⟨by repeat (first | (with_reducible first | exact HB.out | apply below_alloc | apply pw_below_drewN | apply below_drew1 | refine below_set ?_ GE784.out) | exact HB.out)⟩⟩
   case rest =>
    clear HC10
    obtain ⟨kq, x47_9, rfl, HA, HJ9, BK784, HB⟩ := hcut
    cases kq with
    | zero => exact absurd HA.out (by simp [tenorref5_Months.j0])
    | succ kj9 =>
     have H := HA.out;clear HA
     simp only [tenorref5_Months.j0] at H
     by_cases c19 : x47_9 = true
     ·
      subst c19
      have H1 : ((tenorref5_length.f kj9 t785 t786).bind fun t790 => ((tenorref5_Of.f kj9 t785 t786 t790).bind fun bt791 => (some (bt791.1, bt791.2)))) = some (r1, r2) := by rw [if_pos rfl] at H; exact H
      clear H;have H := H1;clear H1;replace H := Option.bind_eq_some_iff.mp H
      obtain ⟨t790, A200, H⟩ := H
      replace H : ((tenorref5_Of.f kj9 t785 t786 t790).bind fun bt791 => (some (bt791.1, bt791.2))) = some (r1, r2) := H
      have A20 := Aside0.mk A200;clear A200;replace H := Option.bind_eq_some_iff.mp H
      obtain ⟨⟨t791, t792⟩, A210, H⟩ := H
      replace H : (some (t791, t792)) = some (r1, r2) := H
      have A21 := Aside0.mk A210;clear A210
      simp only [Option.some.injEq, Prod.mk.injEq] at H
      obtain ⟨rfl, rfl⟩ := H
      go_wp2_with (first | (go_at_call 124; (with_reducible refine (tenorref5_length.calls kj9 t785 t786 t790 _ A20.out).mono ?_); rintro e w' ⟨rfl, ⟨nd, rfl⟩⟩; (try first | exact ⟨rfl, _, World.drewN_drewN _ _ _⟩ | exact ⟨rfl, _, Eq.trans (World.drewN_drewN _ _ _) (congrArg (World.drewN _) (Nat.add_assoc _ _ _))⟩)) | (go_at_call 97; (with_reducible refine (tenorref5_Of.calls kj9 t785 t786 t790 t791 t792 _ A21.out).mono ?_); rintro e w' ⟨rfl, ⟨nd, rfl⟩⟩; (try first | exact ⟨rfl, _, World.drewN_drewN _ _ _⟩ | exact ⟨rfl, _, Eq.trans (World.drewN_drewN _ _ _) (congrArg (World.drewN _) (Nat.add_assoc _ _ _))⟩)))
      repeat (go_quiet (first | (go_at_call 124; (with_reducible refine (tenorref5_length.calls kj9 t785 t786 t790 _ A20.out).mono ?_); rintro e w' ⟨rfl, ⟨nd, rfl⟩⟩; (try first | exact ⟨rfl, _, World.drewN_drewN _ _ _⟩ | exact ⟨rfl, _, Eq.trans (World.drewN_drewN _ _ _) (congrArg (World.drewN _) (Nat.add_assoc _ _ _))⟩)) | (go_at_call 97; (with_reducible refine (tenorref5_Of.calls kj9 t785 t786 t790 t791 t792 _ A21.out).mono ?_); rintro e w' ⟨rfl, ⟨nd, rfl⟩⟩; (try first | exact ⟨rfl, _, World.drewN_drewN _ _ _⟩ | exact ⟨rfl, _, Eq.trans (World.drewN_drewN _ _ _) (congrArg (World.drewN _) (Nat.add_assoc _ _ _))⟩))); try go_wp2_with (first | (go_at_call 124; (with_reducible refine (tenorref5_length.calls kj9 t785 t786 t790 _ A20.out).mono ?_); rintro e w' ⟨rfl, ⟨nd, rfl⟩⟩; (try first | exact ⟨rfl, _, World.drewN_drewN _ _ _⟩ | exact ⟨rfl, _, Eq.trans (World.drewN_drewN _ _ _) (congrArg (World.drewN _) (Nat.add_assoc _ _ _))⟩)) | (go_at_call 97; (with_reducible refine (tenorref5_Of.calls kj9 t785 t786 t790 t791 t792 _ A21.out).mono ?_); rintro e w' ⟨rfl, ⟨nd, rfl⟩⟩; (try first | exact ⟨rfl, _, World.drewN_drewN _ _ _⟩ | exact ⟨rfl, _, Eq.trans (World.drewN_drewN _ _ _) (congrArg (World.drewN _) (Nat.add_assoc _ _ _))⟩))))
      go_ret2
      exact ⟨by first | rfl | (simp [errW_none, errW_some] <;> rfl) | (simp only [← hji9]; first | rfl | (simp [errW_none, errW_some] <;> rfl)) | (simp [*, errW_none, errW_some] <;> rfl), by repeat (first | (with_reducible first | exact HB.out | apply below_alloc | apply pw_below_drewN | apply below_drew1 | refine below_set ?_ GE784.out) | exact HB.out)⟩
     ·
      replace c19 := Bool.eq_false_iff.mpr c19;subst c19
      have H1 : ((tenorref5_Of.f kj9 t785 t786 ji9).bind fun bt793 => (some (bt793.1, bt793.2))) = some (r1, r2) := by rw [if_neg (show ¬ (false = true) by decide)] at H; exact H
      clear H;have H := H1;clear H1;replace H := Option.bind_eq_some_iff.mp H
      obtain ⟨⟨t793, t794⟩, A220, H⟩ := H
      replace H : (some (t793, t794)) = some (r1, r2) := H
      have A22 := Aside0.mk A220;clear A220
      simp only [Option.some.injEq, Prod.mk.injEq] at H
      obtain ⟨rfl, rfl⟩ := H
      go_wp2_with (first | (go_at_call 97; (with_reducible refine (tenorref5_Of.calls kj9 t785 t786 ji9 t793 t794 _ A22.out).mono ?_); rintro e w' ⟨rfl, ⟨nd, rfl⟩⟩; (try first | exact ⟨rfl, _, World.drewN_drewN _ _ _⟩ | exact ⟨rfl, _, Eq.trans (World.drewN_drewN _ _ _) (congrArg (World.drewN _) (Nat.add_assoc _ _ _))⟩)))
      repeat (go_quiet (first | (go_at_call 97; (with_reducible refine (tenorref5_Of.calls kj9 t785 t786 ji9 t793 t794 _ A22.out).mono ?_); rintro e w' ⟨rfl, ⟨nd, rfl⟩⟩; (try first | exact ⟨rfl, _, World.drewN_drewN _ _ _⟩ | exact ⟨rfl, _, Eq.trans (World.drewN_drewN _ _ _) (congrArg (World.drewN _) (Nat.add_assoc _ _ _))⟩))); try go_wp2_with (first | (go_at_call 97; (with_reducible refine (tenorref5_Of.calls kj9 t785 t786 ji9 t793 t794 _ A22.out).mono ?_); rintro e w' ⟨rfl, ⟨nd, rfl⟩⟩; (try first | exact ⟨rfl, _, World.drewN_drewN _ _ _⟩ | exact ⟨rfl, _, Eq.trans (World.drewN_drewN _ _ _) (congrArg (World.drewN _) (Nat.add_assoc _ _ _))⟩))))
      go_ret2
      exact ⟨by first | rfl | (simp [errW_none, errW_some] <;> rfl) | (simp only [← hji9]; first | rfl | (simp [errW_none, errW_some] <;> rfl)) | (simp [*, errW_none, errW_some] <;> rfl), by repeat (first | (with_reducible first | exact HB.out | apply below_alloc | apply pw_below_drewN | apply below_drew1 | refine below_set ?_ GE784.out) | exact HB.out)⟩
  ·
   replace c7 := Bool.eq_false_iff.mpr c7;subst c7
   have H1 : (some (0, 51)) = some (r1, r2) := by rw [if_neg (show ¬ (false = true) by decide)] at H; exact H
   clear H;have H := H1;clear H1
   simp only [Option.some.injEq, Prod.mk.injEq] at H
   obtain ⟨rfl, rfl⟩ := H
   go_enter Try.func116, Try.ntmps116
   go_wp2_with (first | (go_at_call 96; (with_reducible refine (tenorref5_Civil.calls k a0 t780 t781 t782 t783 _ A4.out).mono ?_); rintro e w23 ⟨rfl, hb⟩; have n0_ := Aside0.mk (below_step (by repeat (first | (with_reducible first | exact HB.out | apply below_alloc | apply pw_below_drewN | apply below_drew1) | exact HB.out)) hb); clear HB; have HB := n0_; clear n0_; (try clear hb); (try clear hb2); (try clear hk); (try clear hi)) | ((with_reducible refine gate_dst (N := 8) rfl ?_); refine box_event ?hg (N := 8) ?hd (cs := #[.int .i64 0, .int .i64 0, .int .i64 0]) (t := 115) ?hr ?_; (case hd => rfl); (case hg => rfl); (case hr => first | (go_simp; done) | (go_simp; rfl)); intro gb784 hg w24 hbox hb; have n0_ := Aside0.mk (below_step (by repeat (first | (with_reducible first | exact HB.out | apply below_alloc | apply pw_below_drewN | apply below_drew1) | exact HB.out)) hb); have n1_ := Aside0.mk (hbox); have n2_ := Aside0.mk ((by rw [hg]; exact (below_size (by repeat (first | (with_reducible first | exact HB.out | apply below_alloc | apply pw_below_drewN | apply below_drew1) | exact HB.out))) : w.heap.size ≤ gb784)); have n3_ := Aside0.mk ((by rw [hg]; exact (below_size (by repeat (first | (with_reducible first | exact HB.out | apply below_alloc | apply pw_below_drewN | apply below_drew1) | exact HB.out))) : w.heap.size ≤ gb784)); clear HB; have HB := n0_; have BK784 := n1_; have GW784 := n2_; have GE784 := n3_; clear n0_ n1_ n2_ n3_; clear hb hbox hg; have hcz25_0 : w24.cell? ⟨gb784, 0, none⟩ = some (.int .i64 0) := (blk_cell BK784.out 0).trans rfl; have hcz25_1 : w24.cell? ⟨gb784, 1, none⟩ = some (.int .i64 0) := (blk_cell BK784.out 1).trans rfl; have hcz25_2 : w24.cell? ⟨gb784, 2, none⟩ = some (.int .i64 0) := (blk_cell BK784.out 2).trans rfl; have hfz25_0 := blk_frozen BK784.out 0; have hfz25_1 := blk_frozen BK784.out 1; have hfz25_2 := blk_frozen BK784.out 2) | (go_at_call 115; (with_reducible refine (tenorref5_Month.calls k t780 t781 t782 a1 t785 t786 false _ A6.out).mono ?_); rintro e w26 ⟨rfl, hb⟩; have n0_ := Aside0.mk (blk_below (g := gb784) (o := .cells #[.int .i64 t780, .int .i64 t781, .int .i64 t782] 115 (0, 0)) (by (with_reducible repeat (first | refine blk_drewN ?_ _ | refine blk_drew ?_ | refine blk_alloc ?_ _)); refine blk_put (cs := #[.int .i64 t780, .int .i64 t781, .int .i64 0]) ?_ 2 _ rfl; (with_reducible repeat (first | refine blk_drewN ?_ _ | refine blk_drew ?_ | refine blk_alloc ?_ _)); refine blk_put (cs := #[.int .i64 t780, .int .i64 0, .int .i64 0]) ?_ 1 _ rfl; (with_reducible repeat (first | refine blk_drewN ?_ _ | refine blk_drew ?_ | refine blk_alloc ?_ _)); refine blk_put (cs := #[.int .i64 0, .int .i64 0, .int .i64 0]) ?_ 0 _ rfl; (with_reducible repeat (first | refine blk_drewN ?_ _ | refine blk_drew ?_ | refine blk_alloc ?_ _)); exact BK784.out) hb); have n1_ := Aside0.mk (below_step (by repeat (first | (with_reducible first | exact HB.out | apply below_alloc | apply pw_below_drewN | apply below_drew1 | refine below_set ?_ GE784.out) | exact HB.out)) hb); clear BK784; clear HB; have BK784 := n0_; have HB := n1_; clear n0_ n1_; (try clear hb); (try clear hb2); (try clear hk); (try clear hi)))
   repeat (go_quiet (first | (go_at_call 96; (with_reducible refine (tenorref5_Civil.calls k a0 t780 t781 t782 t783 _ A4.out).mono ?_); rintro e w23 ⟨rfl, hb⟩; have n0_ := Aside0.mk (below_step (by repeat (first | (with_reducible first | exact HB.out | apply below_alloc | apply pw_below_drewN | apply below_drew1) | exact HB.out)) hb); clear HB; have HB := n0_; clear n0_; (try clear hb); (try clear hb2); (try clear hk); (try clear hi)) | ((with_reducible refine gate_dst (N := 8) rfl ?_); refine box_event ?hg (N := 8) ?hd (cs := #[.int .i64 0, .int .i64 0, .int .i64 0]) (t := 115) ?hr ?_; (case hd => rfl); (case hg => rfl); (case hr => first | (go_simp; done) | (go_simp; rfl)); intro gb784 hg w24 hbox hb; have n0_ := Aside0.mk (below_step (by repeat (first | (with_reducible first | exact HB.out | apply below_alloc | apply pw_below_drewN | apply below_drew1) | exact HB.out)) hb); have n1_ := Aside0.mk (hbox); have n2_ := Aside0.mk ((by rw [hg]; exact (below_size (by repeat (first | (with_reducible first | exact HB.out | apply below_alloc | apply pw_below_drewN | apply below_drew1) | exact HB.out))) : w.heap.size ≤ gb784)); have n3_ := Aside0.mk ((by rw [hg]; exact (below_size (by repeat (first | (with_reducible first | exact HB.out | apply below_alloc | apply pw_below_drewN | apply below_drew1) | exact HB.out))) : w.heap.size ≤ gb784)); clear HB; have HB := n0_; have BK784 := n1_; have GW784 := n2_; have GE784 := n3_; clear n0_ n1_ n2_ n3_; clear hb hbox hg; have hcz25_0 : w24.cell? ⟨gb784, 0, none⟩ = some (.int .i64 0) := (blk_cell BK784.out 0).trans rfl; have hcz25_1 : w24.cell? ⟨gb784, 1, none⟩ = some (.int .i64 0) := (blk_cell BK784.out 1).trans rfl; have hcz25_2 : w24.cell? ⟨gb784, 2, none⟩ = some (.int .i64 0) := (blk_cell BK784.out 2).trans rfl; have hfz25_0 := blk_frozen BK784.out 0; have hfz25_1 := blk_frozen BK784.out 1; have hfz25_2 := blk_frozen BK784.out 2) | (go_at_call 115; (with_reducible refine (tenorref5_Month.calls k t780 t781 t782 a1 t785 t786 false _ A6.out).mono ?_); rintro e w26 ⟨rfl, hb⟩; have n0_ := Aside0.mk (blk_below (g := gb784) (o := .cells #[.int .i64 t780, .int .i64 t781, .int .i64 t782] 115 (0, 0)) (by (with_reducible repeat (first | refine blk_drewN ?_ _ | refine blk_drew ?_ | refine blk_alloc ?_ _)); refine blk_put (cs := #[.int .i64 t780, .int .i64 t781, .int .i64 0]) ?_ 2 _ rfl; (with_reducible repeat (first | refine blk_drewN ?_ _ | refine blk_drew ?_ | refine blk_alloc ?_ _)); refine blk_put (cs := #[.int .i64 t780, .int .i64 0, .int .i64 0]) ?_ 1 _ rfl; (with_reducible repeat (first | refine blk_drewN ?_ _ | refine blk_drew ?_ | refine blk_alloc ?_ _)); refine blk_put (cs := #[.int .i64 0, .int .i64 0, .int .i64 0]) ?_ 0 _ rfl; (with_reducible repeat (first | refine blk_drewN ?_ _ | refine blk_drew ?_ | refine blk_alloc ?_ _)); exact BK784.out) hb); have n1_ := Aside0.mk (below_step (by repeat (first | (with_reducible first | exact HB.out | apply below_alloc | apply pw_below_drewN | apply below_drew1 | refine below_set ?_ GE784.out) | exact HB.out)) hb); clear BK784; clear HB; have BK784 := n0_; have HB := n1_; clear n0_ n1_; (try clear hb); (try clear hb2); (try clear hk); (try clear hi))); try go_wp2_with (first | (go_at_call 96; (with_reducible refine (tenorref5_Civil.calls k a0 t780 t781 t782 t783 _ A4.out).mono ?_); rintro e w23 ⟨rfl, hb⟩; have n0_ := Aside0.mk (below_step (by repeat (first | (with_reducible first | exact HB.out | apply below_alloc | apply pw_below_drewN | apply below_drew1) | exact HB.out)) hb); clear HB; have HB := n0_; clear n0_; (try clear hb); (try clear hb2); (try clear hk); (try clear hi)) | ((with_reducible refine gate_dst (N := 8) rfl ?_); refine box_event ?hg (N := 8) ?hd (cs := #[.int .i64 0, .int .i64 0, .int .i64 0]) (t := 115) ?hr ?_; (case hd => rfl); (case hg => rfl); (case hr => first | (go_simp; done) | (go_simp; rfl)); intro gb784 hg w24 hbox hb; have n0_ := Aside0.mk (below_step (by repeat (first | (with_reducible first | exact HB.out | apply below_alloc | apply pw_below_drewN | apply below_drew1) | exact HB.out)) hb); have n1_ := Aside0.mk (hbox); have n2_ := Aside0.mk ((by rw [hg]; exact (below_size (by repeat (first | (with_reducible first | exact HB.out | apply below_alloc | apply pw_below_drewN | apply below_drew1) | exact HB.out))) : w.heap.size ≤ gb784)); have n3_ := Aside0.mk ((by rw [hg]; exact (below_size (by repeat (first | (with_reducible first | exact HB.out | apply below_alloc | apply pw_below_drewN | apply below_drew1) | exact HB.out))) : w.heap.size ≤ gb784)); clear HB; have HB := n0_; have BK784 := n1_; have GW784 := n2_; have GE784 := n3_; clear n0_ n1_ n2_ n3_; clear hb hbox hg; have hcz25_0 : w24.cell? ⟨gb784, 0, none⟩ = some (.int .i64 0) := (blk_cell BK784.out 0).trans rfl; have hcz25_1 : w24.cell? ⟨gb784, 1, none⟩ = some (.int .i64 0) := (blk_cell BK784.out 1).trans rfl; have hcz25_2 : w24.cell? ⟨gb784, 2, none⟩ = some (.int .i64 0) := (blk_cell BK784.out 2).trans rfl; have hfz25_0 := blk_frozen BK784.out 0; have hfz25_1 := blk_frozen BK784.out 1; have hfz25_2 := blk_frozen BK784.out 2) | (go_at_call 115; (with_reducible refine (tenorref5_Month.calls k t780 t781 t782 a1 t785 t786 false _ A6.out).mono ?_); rintro e w26 ⟨rfl, hb⟩; have n0_ := Aside0.mk (blk_below (g := gb784) (o := .cells #[.int .i64 t780, .int .i64 t781, .int .i64 t782] 115 (0, 0)) (by (with_reducible repeat (first | refine blk_drewN ?_ _ | refine blk_drew ?_ | refine blk_alloc ?_ _)); refine blk_put (cs := #[.int .i64 t780, .int .i64 t781, .int .i64 0]) ?_ 2 _ rfl; (with_reducible repeat (first | refine blk_drewN ?_ _ | refine blk_drew ?_ | refine blk_alloc ?_ _)); refine blk_put (cs := #[.int .i64 t780, .int .i64 0, .int .i64 0]) ?_ 1 _ rfl; (with_reducible repeat (first | refine blk_drewN ?_ _ | refine blk_drew ?_ | refine blk_alloc ?_ _)); refine blk_put (cs := #[.int .i64 0, .int .i64 0, .int .i64 0]) ?_ 0 _ rfl; (with_reducible repeat (first | refine blk_drewN ?_ _ | refine blk_drew ?_ | refine blk_alloc ?_ _)); exact BK784.out) hb); have n1_ := Aside0.mk (below_step (by repeat (first | (with_reducible first | exact HB.out | apply below_alloc | apply pw_below_drewN | apply below_drew1 | refine below_set ?_ GE784.out) | exact HB.out)) hb); clear BK784; clear HB; have BK784 := n0_; have HB := n1_; clear n0_ n1_; (try clear hb); (try clear hb2); (try clear hk); (try clear hi))))
   go_ret2
   exact ⟨by first | rfl | (simp [errW_none, errW_some] <;> rfl) | (simp [*, errW_none, errW_some] <;> rfl), by repeat (first | (with_reducible first | exact HB.out | apply below_alloc | apply pw_below_drewN | apply below_drew1 | refine below_set ?_ GE784.out) | exact HB.out)⟩
 ·
  rw [if_neg c5] at H
  have c5b0 : (t783 == 0) = false := beq_eq_false_iff_ne.mpr c5
  have c5b1 : (t783 != 0) = true := bne_iff_ne.mpr c5
  simp only [Option.some.injEq, Prod.mk.injEq] at H
  obtain ⟨rfl, rfl⟩ := H
  go_enter Try.func116, Try.ntmps116
  go_wp2_with (first | (go_at_call 96; (with_reducible refine (tenorref5_Civil.calls k a0 t780 t781 t782 t783 _ A4.out).mono ?_); rintro e w27 ⟨rfl, hb⟩; have n0_ := Aside0.mk (below_step (by repeat (first | (with_reducible first | exact HB.out | apply below_alloc | apply pw_below_drewN | apply below_drew1) | exact HB.out)) hb); clear HB; have HB := n0_; clear n0_; (try clear hb); (try clear hb2); (try clear hk); (try clear hi)) | ((with_reducible refine gate_dst (N := 8) rfl ?_); refine box_event ?hg (N := 8) ?hd (cs := #[.int .i64 0, .int .i64 0, .int .i64 0]) (t := 115) ?hr ?_; (case hd => rfl); (case hg => rfl); (case hr => first | (go_simp; done) | (go_simp; rfl)); intro gb784 hg w28 hbox hb; have n0_ := Aside0.mk (below_step (by repeat (first | (with_reducible first | exact HB.out | apply below_alloc | apply pw_below_drewN | apply below_drew1) | exact HB.out)) hb); have n1_ := Aside0.mk (hbox); have n2_ := Aside0.mk ((by rw [hg]; exact (below_size (by repeat (first | (with_reducible first | exact HB.out | apply below_alloc | apply pw_below_drewN | apply below_drew1) | exact HB.out))) : w.heap.size ≤ gb784)); have n3_ := Aside0.mk ((by rw [hg]; exact (below_size (by repeat (first | (with_reducible first | exact HB.out | apply below_alloc | apply pw_below_drewN | apply below_drew1) | exact HB.out))) : w.heap.size ≤ gb784)); clear HB; have HB := n0_; have BK784 := n1_; have GW784 := n2_; have GE784 := n3_; clear n0_ n1_ n2_ n3_; clear hb hbox hg; have hcz29_0 : w28.cell? ⟨gb784, 0, none⟩ = some (.int .i64 0) := (blk_cell BK784.out 0).trans rfl; have hcz29_1 : w28.cell? ⟨gb784, 1, none⟩ = some (.int .i64 0) := (blk_cell BK784.out 1).trans rfl; have hcz29_2 : w28.cell? ⟨gb784, 2, none⟩ = some (.int .i64 0) := (blk_cell BK784.out 2).trans rfl; have hfz29_0 := blk_frozen BK784.out 0; have hfz29_1 := blk_frozen BK784.out 1; have hfz29_2 := blk_frozen BK784.out 2))
  repeat (go_quiet (first | (go_at_call 96; (with_reducible refine (tenorref5_Civil.calls k a0 t780 t781 t782 t783 _ A4.out).mono ?_); rintro e w27 ⟨rfl, hb⟩; have n0_ := Aside0.mk (below_step (by repeat (first | (with_reducible first | exact HB.out | apply below_alloc | apply pw_below_drewN | apply below_drew1) | exact HB.out)) hb); clear HB; have HB := n0_; clear n0_; (try clear hb); (try clear hb2); (try clear hk); (try clear hi)) | ((with_reducible refine gate_dst (N := 8) rfl ?_); refine box_event ?hg (N := 8) ?hd (cs := #[.int .i64 0, .int .i64 0, .int .i64 0]) (t := 115) ?hr ?_; (case hd => rfl); (case hg => rfl); (case hr => first | (go_simp; done) | (go_simp; rfl)); intro gb784 hg w28 hbox hb; have n0_ := Aside0.mk (below_step (by repeat (first | (with_reducible first | exact HB.out | apply below_alloc | apply pw_below_drewN | apply below_drew1) | exact HB.out)) hb); have n1_ := Aside0.mk (hbox); have n2_ := Aside0.mk ((by rw [hg]; exact (below_size (by repeat (first | (with_reducible first | exact HB.out | apply below_alloc | apply pw_below_drewN | apply below_drew1) | exact HB.out))) : w.heap.size ≤ gb784)); have n3_ := Aside0.mk ((by rw [hg]; exact (below_size (by repeat (first | (with_reducible first | exact HB.out | apply below_alloc | apply pw_below_drewN | apply below_drew1) | exact HB.out))) : w.heap.size ≤ gb784)); clear HB; have HB := n0_; have BK784 := n1_; have GW784 := n2_; have GE784 := n3_; clear n0_ n1_ n2_ n3_; clear hb hbox hg; have hcz29_0 : w28.cell? ⟨gb784, 0, none⟩ = some (.int .i64 0) := (blk_cell BK784.out 0).trans rfl; have hcz29_1 : w28.cell? ⟨gb784, 1, none⟩ = some (.int .i64 0) := (blk_cell BK784.out 1).trans rfl; have hcz29_2 : w28.cell? ⟨gb784, 2, none⟩ = some (.int .i64 0) := (blk_cell BK784.out 2).trans rfl; have hfz29_0 := blk_frozen BK784.out 0; have hfz29_1 := blk_frozen BK784.out 1; have hfz29_2 := blk_frozen BK784.out 2)); try go_wp2_with (first | (go_at_call 96; (with_reducible refine (tenorref5_Civil.calls k a0 t780 t781 t782 t783 _ A4.out).mono ?_); rintro e w27 ⟨rfl, hb⟩; have n0_ := Aside0.mk (below_step (by repeat (first | (with_reducible first | exact HB.out | apply below_alloc | apply pw_below_drewN | apply below_drew1) | exact HB.out)) hb); clear HB; have HB := n0_; clear n0_; (try clear hb); (try clear hb2); (try clear hk); (try clear hi)) | ((with_reducible refine gate_dst (N := 8) rfl ?_); refine box_event ?hg (N := 8) ?hd (cs := #[.int .i64 0, .int .i64 0, .int .i64 0]) (t := 115) ?hr ?_; (case hd => rfl); (case hg => rfl); (case hr => first | (go_simp; done) | (go_simp; rfl)); intro gb784 hg w28 hbox hb; have n0_ := Aside0.mk (below_step (by repeat (first | (with_reducible first | exact HB.out | apply below_alloc | apply pw_below_drewN | apply below_drew1) | exact HB.out)) hb); have n1_ := Aside0.mk (hbox); have n2_ := Aside0.mk ((by rw [hg]; exact (below_size (by repeat (first | (with_reducible first | exact HB.out | apply below_alloc | apply pw_below_drewN | apply below_drew1) | exact HB.out))) : w.heap.size ≤ gb784)); have n3_ := Aside0.mk ((by rw [hg]; exact (below_size (by repeat (first | (with_reducible first | exact HB.out | apply below_alloc | apply pw_below_drewN | apply below_drew1) | exact HB.out))) : w.heap.size ≤ gb784)); clear HB; have HB := n0_; have BK784 := n1_; have GW784 := n2_; have GE784 := n3_; clear n0_ n1_ n2_ n3_; clear hb hbox hg; have hcz29_0 : w28.cell? ⟨gb784, 0, none⟩ = some (.int .i64 0) := (blk_cell BK784.out 0).trans rfl; have hcz29_1 : w28.cell? ⟨gb784, 1, none⟩ = some (.int .i64 0) := (blk_cell BK784.out 1).trans rfl; have hcz29_2 : w28.cell? ⟨gb784, 2, none⟩ = some (.int .i64 0) := (blk_cell BK784.out 2).trans rfl; have hfz29_0 := blk_frozen BK784.out 0; have hfz29_1 := blk_frozen BK784.out 1; have hfz29_2 := blk_frozen BK784.out 2)))
  go_ret2
  exact ⟨by first | rfl | (simp [errW_none, errW_some] <;> rfl) | (simp [*, errW_none, errW_some] <;> rfl), by repeat (first | (with_reducible first | exact HB.out | apply below_alloc | apply pw_below_drewN | apply below_drew1 | refine below_set ?_ GE784.out) | exact HB.out)⟩
end Go.Proofs.Ytoncignjcgjhhaa.Q
namespace Go.Proofs.Ytoncignjcgjhhaa.Q
open Go.RowKit Go.Proofs.YtoncignjcgjhhaaW.PrintWords Go.Proofs.YtoncignjcgjhhaaW.PrintLast Go.Proofs.YtoncignjcgjhhaaW.PrintMore
attribute [local go_sem] max2_int min2_int max_two min_two max_three min_three max_four min_four   -- for this text's walks alone
def tenorref5_Third.l0 : Nat → Int → Option (Int × Int)
  | 0, _ => none
  | k + 1, x6 => if (Int.tmod x6 7) = 2 then (some (x6, 0)) else (tenorref5_Third.l0 k (wrap64 (x6 + 1)))
def tenorref5_Third.f (k : Nat) (a0 : Int) (a1 : Int) : Option (Int × Int) := (tenorref5_Of.f k a0 a1 15).bind fun bt795 => (if bt795.2 = 0 then (tenorref5_Third.l0 k bt795.1) else (some (0, bt795.2)))
theorem tenorref5_Third.mono_l : ∀ k, (∀ y0, LeO (tenorref5_Third.l0 k y0) (tenorref5_Third.l0 (k + 1) y0))
 | 0 => fun _ r h => by simp [tenorref5_Third.l0] at h
 | k + 1 => by
  have ih0 := tenorref5_Third.mono_l k
  ·
   intro y0
   unfold tenorref5_Third.l0
   repeat' first
   | (with_reducible exact ih0 _)
   | (with_reducible exact tenorref5_Of.mono _ _ _ _)
   | (with_reducible exact LeO.refl _)
   | (with_reducible exact LeO.none _)
   | (with_reducible refine LeO.ite ?_ ?_)
   | (with_reducible refine LeO.bind ?_ (fun _ => ?_))
   | exact ih0 _
   | exact tenorref5_Of.mono _ _ _ _
   | exact LeO.none _
   | refine LeO.ite ?_ ?_
   | refine LeO.bind ?_ (fun _ => ?_)
theorem tenorref5_Third.mono : ∀ a0 a1 k, LeO (tenorref5_Third.f k a0 a1) (tenorref5_Third.f (k + 1) a0 a1) := by
 intro a0 a1 k
 have ih0 := tenorref5_Third.mono_l k
 unfold tenorref5_Third.f
 repeat' first
   | (with_reducible exact ih0 _)
   | (with_reducible exact tenorref5_Of.mono _ _ _ _)
   | (with_reducible exact LeO.refl _)
   | (with_reducible exact LeO.none _)
   | (with_reducible refine LeO.ite ?_ ?_)
   | (with_reducible refine LeO.bind ?_ (fun _ => ?_))
   | exact ih0 _
   | exact tenorref5_Of.mono _ _ _ _
   | exact LeO.none _
   | refine LeO.ite ?_ ?_
   | refine LeO.bind ?_ (fun _ => ?_)
set_option maxHeartbeats 8000000 in
set_option maxRecDepth 100000 in
theorem tenorref5_Third.calls (k : Nat) (a0 : Int) (a1 : Int) (r1 : Int) (r2 : Int) (w : World) (h : tenorref5_Third.f k a0 a1 = some (r1, r2)) :
  Calls Try.prog 118 #[.int .i64 a0, .int .i64 a1] w fun e w' => e = .returned (.tuple #[.int .i64 r1, .int .i64 r2]) ∧ Drawn0 w w' := by
 have H : ((tenorref5_Of.f k a0 a1 15).bind fun bt795 => (if bt795.2 = 0 then (tenorref5_Third.l0 k bt795.1) else (some (0, bt795.2)))) = some (r1, r2) := h
 clear h;replace H := Option.bind_eq_some_iff.mp H
 obtain ⟨⟨t795, t796⟩, A30, H⟩ := H
 replace H : (if t796 = 0 then (tenorref5_Third.l0 k t795) else (some (0, t796))) = some (r1, r2) := H
 have A3 := Aside0.mk A30;clear A30
 by_cases c4 : t796 = 0
 ·
  rw [if_pos c4] at H
  have c4b0 : (t796 == 0) = true := beq_iff_eq.mpr c4
  have c4b1 : (t796 != 0) = false := bne_eq_false_iff_eq.mpr c4
  clear c4;have H' := Aside0.mk H;clear H
  go_enter Try.func118, Try.ntmps118
  go_wp2_with (first | ((with_reducible refine gate_callee (f := 97) rfl ?_); refine goesL_ (some 11) rfl rfl Try.func97 (by kernel_rfl) rfl #[.int .i64 a0, .int .i64 a1, .int .i64 15] rfl (by (try simp only [List.map_toArray, List.map_cons, List.map_nil]); first | done | rfl | (simp only [List.length_drop, List.length_take]; rfl)) ?_; (with_reducible refine (tenorref5_Of.calls k a0 a1 15 t795 t796 _ A3.out).mono ?_); rintro e w' ⟨rfl, ⟨nd, rfl⟩⟩; refine ⟨_, rfl, ?_⟩))
  go_loopg [6] k (fun kq v6 w' => ∃ (x6_1 : Int), v6 = .int .i64 x6_1 ∧ Aside0 (tenorref5_Third.l0 kq x6_1 = some (r1, r2)) ∧ Aside0 (kq ≤ k) ∧ Drawn0 w w')
  case atStart => exact ⟨(t795), (by first | rfl | (simp; done) | (simp [*]; done)), H', ⟨Nat.le_refl _⟩, by repeat (first | exact Drawn0.refl _ | apply Drawn0.step)⟩
  case round =>
   clear H'
   obtain ⟨x6_1, rfl, HA, HK1, ⟨m1, rfl⟩⟩ := hrel
   cases gk with
   | zero => exact absurd HA.out (by simp [tenorref5_Third.l0])
   | succ k1 =>
    have H := HA.out;clear HA
    simp only [tenorref5_Third.l0] at H
    by_cases c5 : (Int.tmod x6_1 7) = 2
    ·
     rw [if_pos c5] at H
     have c5b0 : ((Int.tmod x6_1 7) == 2) = true := beq_iff_eq.mpr c5
     have c5b1 : ((Int.tmod x6_1 7) != 2) = false := bne_eq_false_iff_eq.mpr c5
     clear c5
     simp only [Option.some.injEq, Prod.mk.injEq] at H
     obtain ⟨rfl, rfl⟩ := H
     go_wp2
     go_ret2
     exact ⟨by first | rfl | (simp; done) | (simp [*]; done), by repeat (first | exact Drawn0.refl _ | apply Drawn0.step)⟩
    ·
     rw [if_neg c5] at H
     have c5b0 : ((Int.tmod x6_1 7) == 2) = false := beq_eq_false_iff_ne.mpr c5
     have c5b1 : ((Int.tmod x6_1 7) != 2) = true := bne_iff_ne.mpr c5
     have H' := Aside0.mk H;clear H
     go_wp2
     go_roundg k1
     case measure => have := HK1.out; omega
     case rel => exact ⟨(wrap64 (x6_1 + 1)), (by first | rfl | (simp; done) | (simp [*]; done)), H', ⟨by have := HK1.out; omega⟩, by repeat (first | exact Drawn0.refl _ | apply Drawn0.step)⟩
 ·
  rw [if_neg c4] at H
  have c4b0 : (t796 == 0) = false := beq_eq_false_iff_ne.mpr c4
  have c4b1 : (t796 != 0) = true := bne_iff_ne.mpr c4
  simp only [Option.some.injEq, Prod.mk.injEq] at H
  obtain ⟨rfl, rfl⟩ := H
  go_enter Try.func118, Try.ntmps118
  go_wp2_with (first | ((with_reducible refine gate_callee (f := 97) rfl ?_); refine goesL_ (some 11) rfl rfl Try.func97 (by kernel_rfl) rfl #[.int .i64 a0, .int .i64 a1, .int .i64 15] rfl (by (try simp only [List.map_toArray, List.map_cons, List.map_nil]); first | done | rfl | (simp only [List.length_drop, List.length_take]; rfl)) ?_; (with_reducible refine (tenorref5_Of.calls k a0 a1 15 t795 t796 _ A3.out).mono ?_); rintro e w' ⟨rfl, ⟨nd, rfl⟩⟩; refine ⟨_, rfl, ?_⟩))
  go_ret2
  exact ⟨by first | rfl | (simp; done) | (simp [*]; done), by repeat (first | exact Drawn0.refl _ | apply Drawn0.step)⟩
end Go.Proofs.Ytoncignjcgjhhaa.Q
namespace Go.Proofs.Ytoncignjcgjhhaa.M
def mAt (n k : Int) : Int := 12 * civY n + civM n - 1 + k
def monthsDay (n k : Int) (e : Bool) : Int :=
  if civD n > mlen (mAt n k / 12) (mAt n k % 12 + 1) then mlen (mAt n k / 12) (mAt n k % 12 + 1)
  else if e = true ∧ civD n = mlen (civY n) (civM n) then mlen (mAt n k / 12) (mAt n k % 12 + 1) else civD n
def monthsOk (n k : Int) : Prop := -4000 ≤ k ∧ k ≤ 4000 ∧ 22800 ≤ mAt n k ∧ mAt n k ≤ 26399
instance monthsOkDec (n k : Int) : Decidable (monthsOk n k) := inferInstanceAs (Decidable (_ ∧ _))
def months (n k : Int) (e : Bool) : Int × Int :=
  if 0 ≤ n ∧ n ≤ 109572 then (if monthsOk n k then (dayOf (mAt n k / 12) (mAt n k % 12 + 1) (monthsDay n k e), 0) else (0, 51)) else (0, 51)
def third (y m : Int) : Int := dayOf y m 15 + (9 - dayOf y m 15 % 7) % 7
theorem mAt_rng {n k : Int} (h : monthsOk n k) : 1900 ≤ mAt n k / 12 ∧ mAt n k / 12 ≤ 2199 ∧ 1 ≤ mAt n k % 12 + 1 ∧ mAt n k % 12 + 1 ≤ 12 := by
  unfold monthsOk at h; omega
theorem monthsDay_rng {n k : Int} (e : Bool) (hn : 0 ≤ n ∧ n ≤ 109572) : 1 ≤ monthsDay n k e ∧ monthsDay n k e ≤ mlen (mAt n k / 12) (mAt n k % 12 + 1) := by
 have h := (civ_spec n hn.1 hn.2).1
 have l := mlen_rng (mAt n k / 12) (mAt n k % 12 + 1)
 unfold isDate at h
 unfold monthsDay
 split
 ·
  omega
 ·
  split <;> omega
theorem monthsDate {n k : Int} (e : Bool) (hn : 0 ≤ n ∧ n ≤ 109572) (h : monthsOk n k) : isDate (mAt n k / 12) (mAt n k % 12 + 1) (monthsDay n k e) := by
  have a := mAt_rng h; have b := monthsDay_rng e hn (k := k)
  exact ⟨a.1, a.2.1, a.2.2.1, a.2.2.2, b.1, b.2⟩
theorem d15 {y m : Int} (h : 1900 ≤ y ∧ y ≤ 2199 ∧ 1 ≤ m ∧ m ≤ 12) : isDate y m 15 := by
  have := mlen_rng y m; unfold isDate; omega
end Go.Proofs.Ytoncignjcgjhhaa.M
namespace Go.Proofs.Ytoncignjcgjhhaa.L
open Go.RowKit Go.Proofs.YtoncignjcgjhhaaW.PrintWords Go.Proofs.YtoncignjcgjhhaaW.PrintLast Go.Proofs.YtoncignjcgjhhaaW.PrintMore
open Go.Proofs.Ytoncignjcgjhhaa.Q
theorem dmonth (y m : Int) : date_month.f y m = some (decide (1900 ≤ y ∧ y ≤ 2199 ∧ 1 ≤ m ∧ m ≤ 12)) := by
 unfold date_month.f
 repeat' split
 all_goals first | (congr 1; rw [decide_eq_decide]; omega) | (congr 1; symm; rw [decide_eq_false_iff_not]; omega)
theorem Months_j0t (n k : Int) (e : Bool) : Ev (fun q => date_Months.j0 q n k e true) ((0, 51) : Int × Int) :=
  Ev.step (f := fun _ => some ((0, 51) : Int × Int)) (fun q => by rw [date_Months.j0, if_pos rfl]) (Ev.now _)
theorem Months_j0f (n k : Int) (e : Bool) (hn : 0 ≤ n ∧ n ≤ 109572) (h0 : -4000 ≤ k) (h1 : k ≤ 4000) :
  Ev (fun q => date_Months.j0 q n k e false) (if M.monthsOk n k then (M.dayOf (M.mAt n k / 12) (M.mAt n k % 12 + 1) (M.monthsDay n k e), 0) else ((0, 51) : Int × Int)) := by
 have hs := (M.civ_spec n hn.1 hn.2).1
 unfold M.isDate at hs
 have hm : 0 ≤ M.mAt n k := by unfold M.mAt; omega
 have hm2 : M.mAt n k ≤ 40000 := by unfold M.mAt; omega
 have e1 : wrap64 (wrap64 (wrap64 (wrap64 (12 * M.civY n) + M.civM n) - 1) + k) = M.mAt n k := by
  unfold M.mAt
  rw [w64 (x := 12 * M.civY n) (by omega) (by omega), w64 (x := 12 * M.civY n + M.civM n) (by omega) (by omega), w64 (x := 12 * M.civY n + M.civM n - 1) (by omega) (by omega), w64 (by omega) (by omega)]
 have e2 : wrap64 (Int.tdiv (M.mAt n k) 12) = M.mAt n k / 12 := by rw [td hm, w64 (by omega) (by omega)]
 have e3 : wrap64 (Int.tmod (M.mAt n k) 12 + 1) = M.mAt n k % 12 + 1 := by rw [tm hm, w64 (by omega) (by omega)]
 have hstep : ∀ q, date_Months.j0 (q + 1) n k e false = (date_civil.f q n).bind fun (bt721 : Int × Int × Int) => _ := fun q => by rw [date_Months.j0, if_neg (by decide)]
 refine Ev.step hstep (Ev.bind (civil n hn.1 hn.2) ?_)
 clear hstep
 have hl := M.mlen_rng (M.mAt n k / 12) (M.mAt n k % 12 + 1)
 by_cases ho : M.monthsOk n k
 ·
  rw [if_pos ho]
  have hr := M.mAt_rng ho
  have hd : ∀ d : Int, 1 ≤ d → d ≤ 31 → Ev (fun q => (date_day.f q (M.mAt n k / 12) (M.mAt n k % 12 + 1) d).bind fun t => some (t, (0 : Int))) (M.dayOf (M.mAt n k / 12) (M.mAt n k % 12 + 1) d, 0) :=
   fun d a b => Ev.bind (day _ _ d (by omega) (by omega) (by omega) (by omega) (by omega) (by omega)) (Ev.now _)
  refine Ev.congr (fun q => by simp only [e1, e2, e3, length, Option.bind_some, dmonth]; rw [decide_eq_true hr, if_pos rfl]) ?_
  unfold M.monthsDay
  by_cases c1 : M.civD n > M.mlen (M.mAt n k / 12) (M.mAt n k % 12 + 1)
  ·
   rw [if_pos c1]
   exact Ev.congr (fun q => if_pos c1) (hd _ (by omega) (by omega))
  ·
   rw [if_neg c1]
   refine Ev.congr (fun q => if_neg c1) ?_
   cases e with
   | true =>
    refine Ev.congr (fun q => if_pos rfl) ?_
    by_cases c2 : M.civD n = M.mlen (M.civY n) (M.civM n)
    ·
     rw [if_pos ⟨rfl, c2⟩]
     exact Ev.congr (fun q => if_pos c2) (hd _ (by omega) (by omega))
    ·
     rw [if_neg (fun h => c2 h.2)]
     exact Ev.congr (fun q => if_neg c2) (hd _ (by omega) (by omega))
   | false =>
    rw [if_neg (fun h => absurd h.1 (by decide))]
    exact Ev.congr (fun q => if_neg (by decide)) (hd _ (by omega) (by omega))
 ·
  rw [if_neg ho]
  refine Ev.congr (fun q => ?_) (Ev.now _)
  have hr : ¬ (1900 ≤ M.mAt n k / 12 ∧ M.mAt n k / 12 ≤ 2199 ∧ 1 ≤ M.mAt n k % 12 + 1 ∧ M.mAt n k % 12 + 1 ≤ 12) := by
   intro h; apply ho; unfold M.monthsOk; omega
  simp only [e1, e2, e3, length, Option.bind_some, dmonth]
  rw [decide_eq_false hr, if_neg (by decide)]
theorem Months (n k : Int) (e : Bool) : Ev (fun q => date_Months.f q n k e) (M.months n k e) := by
 unfold M.months
 refine Ev.congr (fun q => by unfold date_Months.f; rw [dis, Option.bind_some]) ?_
 by_cases hn : 0 ≤ n ∧ n ≤ 109572
 ·
  rw [if_pos hn]
  refine Ev.congr (fun q => by rw [decide_eq_true hn, if_pos rfl]) ?_
  by_cases h0 : k < -4000
  ·
   rw [if_neg (fun h => by have := h.1; omega)]
   exact Ev.congr (fun q => if_pos h0) (Months_j0t n k e)
  ·
   refine Ev.congr (fun q => if_neg h0) ?_
   by_cases h1 : k > 4000
   ·
    rw [if_neg (fun h => by have := h.2.1; omega)]
    exact Ev.congr (fun q => by rw [decide_eq_true h1]) (Months_j0t n k e)
   ·
    exact Ev.congr (fun q => by rw [decide_eq_false h1]) (Months_j0f n k e hn (by omega) (by omega))
 ·
  rw [if_neg hn]
  exact Ev.congr (fun q => by rw [decide_eq_false hn, if_neg (by decide)]) (Months_j0t n k e)
theorem Third (y m : Int) : Ev (fun q => date_Third.f q y m) (if 1900 ≤ y ∧ y ≤ 2199 ∧ 1 ≤ m ∧ m ≤ 12 then (M.third y m, 0) else ((0, 50) : Int × Int)) := by
 refine Ev.congr (fun q => by unfold date_Third.f; rw [dmonth, Option.bind_some]) ?_
 by_cases h : 1900 ≤ y ∧ y ≤ 2199 ∧ 1 ≤ m ∧ m ≤ 12
 ·
  rw [if_pos h]
  refine Ev.congr (fun q => by rw [decide_eq_true h, if_pos rfl]) (Ev.bind (day y m 15 (by omega) (by omega) (by omega) (by omega) (by omega) (by omega)) ?_)
  refine Ev.congr (fun q => ?_) (Ev.now _)
  have hr := M.day_rng (M.d15 h)
  unfold M.third
  rw [tm hr.1, w64 (x := 9 - M.dayOf y m 15 % 7) (by omega) (by omega), tm (a := 9 - M.dayOf y m 15 % 7) (by omega), w64 (by omega) (by omega)]
 ·
  rw [if_neg h]
  exact Ev.congr (fun q => by rw [decide_eq_false h, if_neg (by decide)]) (Ev.now _)
end Go.Proofs.Ytoncignjcgjhhaa.L
namespace Go.Proofs.Ytoncignjcgjhhaa.R
open Go.RowKit Go.Proofs.YtoncignjcgjhhaaW.PrintWords Go.Proofs.YtoncignjcgjhhaaW.PrintLast Go.Proofs.YtoncignjcgjhhaaW.PrintMore
open Go.Proofs.Ytoncignjcgjhhaa.Q
open Go.Proofs.Ytoncignjcgjhhaa.L (w64 td tm tm0)
def mon5 (n k : Int) : Int × Int × Bool := if M.monthsOk n k then (M.mAt n k / 12, M.mAt n k % 12 + 1, true) else (0, 0, false)
theorem Month5 (n k : Int) (hn : 0 ≤ n ∧ n ≤ 109572) : Ev (fun q => tenorref5_Month.f q (M.civY n) (M.civM n) (M.civD n) k) (mon5 n k) := by
 have hs := (M.civ_spec n hn.1 hn.2).1
 unfold M.isDate at hs
 have ht : Ev (fun q => tenorref5_Month.j0 q k true (M.civY n) (M.civM n) (M.civD n)) ((0, 0, false) : Int × Int × Bool) :=
  Ev.step (f := fun _ => some ((0, 0, false) : Int × Int × Bool)) (fun q => by rw [tenorref5_Month.j0, if_pos rfl]) (Ev.now _)
 unfold mon5
 by_cases h0 : k < -4000
 ·
  rw [if_neg (fun h => by have := h.1; omega)]
  exact Ev.congr (fun q => by unfold tenorref5_Month.f; rw [if_pos h0]) ht
 ·
  by_cases h1 : k > 4000
  ·
   rw [if_neg (fun h => by have := h.2.1; omega)]
   exact Ev.congr (fun q => by unfold tenorref5_Month.f; rw [if_neg h0, decide_eq_true h1]) ht
  ·
   have hm : 0 ≤ M.mAt n k := by unfold M.mAt; omega
   have hm2 : M.mAt n k ≤ 40000 := by unfold M.mAt; omega
   have e1 : wrap64 (wrap64 (wrap64 (wrap64 (12 * M.civY n) + M.civM n) - 1) + k) = M.mAt n k := by
    unfold M.mAt
    rw [w64 (x := 12 * M.civY n) (by omega) (by omega), w64 (x := 12 * M.civY n + M.civM n) (by omega) (by omega), w64 (x := 12 * M.civY n + M.civM n - 1) (by omega) (by omega), w64 (by omega) (by omega)]
   have e2 : wrap64 (Int.tdiv (M.mAt n k) 12) = M.mAt n k / 12 := by rw [td hm, w64 (by omega) (by omega)]
   have e3 : wrap64 (Int.tmod (M.mAt n k) 12 + 1) = M.mAt n k % 12 + 1 := by rw [tm hm, w64 (by omega) (by omega)]
   refine Ev.congr (fun q => by unfold tenorref5_Month.f; rw [if_neg h0, decide_eq_false h1]) ?_
   refine Ev.step (f := fun _ => some (if M.monthsOk n k then (M.mAt n k / 12, M.mAt n k % 12 + 1, true) else ((0, 0, false) : Int × Int × Bool))) (fun q => ?_) (Ev.now _)
   have hok : M.monthsOk n k ↔ 22800 ≤ M.mAt n k ∧ M.mAt n k ≤ 26399 := by unfold M.monthsOk; omega
   rw [tenorref5_Month.j0, if_neg (by decide), e1, e2, e3]
   by_cases c1 : M.mAt n k < 22800
   ·
    rw [if_pos c1, if_neg (fun h => by have := hok.1 h; omega)]
   ·
    rw [if_neg c1]
    by_cases c2 : M.mAt n k > 26399
    ·
     rw [if_pos c2, if_neg (fun h => by have := hok.1 h; omega)]
    ·
     rw [if_neg c2, if_pos (hok.2 (by omega))]
theorem Months5 (n k : Int) (hn : 0 ≤ n ∧ n ≤ 109572) : Ev (fun q => tenorref5_Months.f q n k false) (M.months n k false) := by
 have hc := Civil n
 rw [if_pos hn] at hc
 refine Ev.congr (fun q => by unfold tenorref5_Months.f; rfl) (Ev.bind hc ?_)
 refine Ev.congr (fun q => if_pos rfl) (Ev.bind (Month5 n k hn) ?_)
 unfold M.months mon5
 rw [if_pos hn]
 by_cases ho : M.monthsOk n k
 ·
  rw [if_pos ho, if_pos ho]
  refine Ev.congr (fun q => if_pos rfl) (Ev.bind (length _ _) ?_)
  refine Ev.congr (fun q => if_neg (by decide)) ?_
  have e : mn (M.civD n) (M.mlen (M.mAt n k / 12) (M.mAt n k % 12 + 1)) = M.monthsDay n k false := by
   unfold mn M.monthsDay
   rw [if_neg (fun h : false = true ∧ _ => absurd h.1 (by decide))]
  have ho2 := Of (M.mAt n k / 12) (M.mAt n k % 12 + 1) (M.monthsDay n k false)
  rw [if_pos (M.monthsDate false hn ho)] at ho2
  refine Ev.step (fun q => by rw [tenorref5_Months.j0, if_neg (by decide), e]) (Ev.bind ho2 (Ev.now _))
 ·
  rw [if_neg ho, if_neg ho]
  exact Ev.congr (fun q => if_neg (by decide)) (Ev.now _)
theorem Third5_l0 (x : Int) (h0 : 0 ≤ x) (h1 : x ≤ 200000) : ∀ (f : Nat) (n : Int), x ≤ n → n ≤ x + 7 → n ≤ x + (9 - x % 7) % 7 → x + (9 - x % 7) % 7 - n = f → Ev (fun q => tenorref5_Third.l0 q n) (x + (9 - x % 7) % 7, (0 : Int))
 | 0, n, a, b, c, d => by
  have e : n = x + (9 - x % 7) % 7 := by omega
  refine Ev.step (f := fun _ => some (x + (9 - x % 7) % 7, (0 : Int))) (fun q => ?_) (Ev.now _)
  rw [tenorref5_Third.l0, tm (by omega), if_pos (by omega), e]
 | f + 1, n, a, b, c, d => by
  refine Ev.step (fun q => ?_) (Third5_l0 x h0 h1 f (n + 1) (by omega) (by omega) (by omega) (by omega))
  rw [tenorref5_Third.l0, tm (by omega), if_neg (by omega), w64 (by omega) (by omega)]
theorem Third5 (y m : Int) (h : 1900 ≤ y ∧ y ≤ 2199 ∧ 1 ≤ m ∧ m ≤ 12) : Ev (fun q => tenorref5_Third.f q y m) (M.third y m, (0 : Int)) := by
 have ho2 := Of y m 15
 rw [if_pos (M.d15 h)] at ho2
 have hr := M.day_rng (M.d15 h)
 refine Ev.congr (fun q => by unfold tenorref5_Third.f; rfl) (Ev.bind ho2 ?_)
 refine Ev.congr (fun q => if_pos rfl) ?_
 exact Third5_l0 (M.dayOf y m 15) hr.1 (by omega) ((9 - M.dayOf y m 15 % 7) % 7).toNat _ (Int.le_refl _) (by omega) (by omega) (by omega)
end Go.Proofs.Ytoncignjcgjhhaa.R
namespace Go.Proofs.Ytoncignjcgjhhaa.R
open Go.RowKit Go.Proofs.YtoncignjcgjhhaaW.PrintWords Go.Proofs.YtoncignjcgjhhaaW.PrintLast Go.Proofs.YtoncignjcgjhhaaW.PrintMore
open Go.Proofs.Ytoncignjcgjhhaa.Q
open Go.Proofs.Ytoncignjcgjhhaa.L (w64 td tm tm0)
theorem in_ (a b c : Int) : tenorref6_in.f a b c = some (decide (b ≤ a ∧ a ≤ c)) := by
  have := L.within a b c; unfold cal_within.f at this; unfold tenorref6_in.f; exact this
theorem rd_eq (l : List S63) (i : Nat) (h : i < l.length) : rd_T63 l (i : Int) = l[i] := by simp [rd_T63, h]
theorem Check_l0 (we : Int) (l : List S63) (hlen : l.length ≤ 64) : ∀ (f i : Nat), i ≤ l.length → l.length - i = f → Ev (fun k => tenorref6_Check.l0 k (i : Int) we l) (M.chkAt ((l.drop i).map H.ru) i)
 | 0, i, a, b => by
  have e : i = l.length := by omega
  have c1 : ¬ (i : Int) < (l.length : Int) := by omega
  refine Ev.step (f := fun _ => some (M.chkAt ((l.drop i).map H.ru) i)) (fun k => ?_) (Ev.now _)
  rw [tenorref6_Check.l0, if_neg c1, e, List.drop_length]; rfl
 | f + 1, i, a, b => by
  have hlt : i < l.length := by omega
  have ih := Check_l0 we l hlen f (i + 1) (by omega) (by omega)
  have c1 : (i : Int) < (l.length : Int) := by omega
  have c2 : (0 : Int) ≤ (i : Int) := by omega
  have hw : wrap64 ((i : Int) + 1) = ((i + 1 : Nat) : Int) := by rw [w64 (by omega) (by omega)]; push_cast; rfl
  have hl0 : ∀ k, tenorref6_Check.l0 (k + 1) (i : Int) we l = if M.may (H.ru l[i]) = true then tenorref6_Check.l0 k ((i + 1 : Nat) : Int) we l else some (60, (i : Int)) := by
   intro k
   rw [tenorref6_Check.l0, if_pos c1, if_pos c2, rd_eq l i hlt, hw]
   rfl
  rw [List.drop_eq_getElem_cons hlt, List.map_cons]
  unfold M.chkAt
  by_cases hm : M.may (H.ru l[i]) = true
  ·
   rw [if_pos hm]
   push_cast at ih
   exact Ev.step (fun k => by rw [hl0 k, if_pos hm]; push_cast; rfl) ih
  ·
   rw [if_neg hm]
   exact Ev.step (f := fun _ => some ((60 : Int), (i : Int))) (fun k => by rw [hl0 k, if_neg hm]) (Ev.now _)
theorem Check (we : Int) (l : List S63) : Ev (fun k => tenorref6_Check.f k we l) (M.chk we (l.map H.ru)) := by
 unfold M.chk
 by_cases h : 64 < l.length
 ·
  have c1 : (l.length : Int) > 64 := by omega
  rw [if_pos (by simpa using h)]
  exact Ev.congr (fun k => by unfold tenorref6_Check.f; rw [if_pos c1]) (Ev.now _)
 ·
  have c1 : ¬ (l.length : Int) > 64 := by omega
  rw [if_neg (by simpa using h)]
  by_cases hw : 0 ≤ we ∧ we ≤ 126
  ·
   rw [if_pos hw]
   have h0 := Check_l0 we l (by omega) l.length 0 (by omega) (by omega)
   refine Ev.congr (fun k => ?_) h0
   unfold tenorref6_Check.f
   rw [if_neg c1, in_, decide_eq_true hw]; rfl
  ·
   rw [if_neg hw]
   refine Ev.congr (fun k => ?_) (Ev.now _)
   unfold tenorref6_Check.f
   rw [if_neg c1, in_, decide_eq_false hw]; rfl
theorem mays {we : Int} {l : List S63} (h : (M.chk we (l.map H.ru)).1 = 0) : 0 ≤ we ∧ we ≤ 126 ∧ l.length ≤ 64 ∧ ∀ r ∈ l, M.may (H.ru r) = true :=
 have h := M.chk_ok h
 ⟨h.2.2.1, h.2.2.2.1, by simpa using h.2.1, fun x hx => h.2.2.2.2 _ (List.mem_map_of_mem hx)⟩
end Go.Proofs.Ytoncignjcgjhhaa.R
namespace Go.Proofs.Ytoncignjcgjhhaa.H
open Go.RowKit Go.Maps Go.Proofs.YtoncignjcgjhhaaW.PrintWords Go.Proofs.YtoncignjcgjhhaaW.PrintLast Go.Proofs.YtoncignjcgjhhaaW.PrintMore
open Go.Proofs.Ytoncignjcgjhhaa.Q (S63 k63 z63)
theorem law3 : Keyed Try.prog 3 := int_keyed Try.underlying3
theorem zero3 (w : World) : (zeroValue 3).run Try.prog w = .ok (.int .i64 0) w := by kernel_rfl
theorem wf_i64 {x : Int} (h : L.i64 x) : (Lit.int .i64 x).wf = true := by
 have hmin : IntKind.i64.min = -9223372036854775808 := rfl
 have hmax : IntKind.i64.max = 9223372036854775807 := rfl
 unfold L.i64 at h
 simp only [Lit.wf, Bool.and_eq_true, decide_eq_true_eq]
 omega
def b01 (b : Bool) : Int := if b = true then 1 else 0
def MapOk (w : World) (b n : Nat) (f : Int → Bool) : Prop :=
  ∃ D : DataW Unit, w.ownsMap Try.prog 3 (plainElem Try.prog 3) b n D ∧ IsMap D ∧ ∀ x, L.i64 x → D.atKey (.int .i64 x) (.lit (.int .i64 0)) = .lit (.int .i64 (b01 (f x)))
theorem MapOk.lt {w : World} {b n : Nat} {f : Int → Bool} (h : MapOk w b n f) : b < w.heap.size := by obtain ⟨D, h, _⟩ := h; exact h.lt
theorem MapOk.mono {w : World} {b n n' : Nat} {f : Int → Bool} (h : MapOk w b n f) (hn : n ≤ n') : MapOk w b n' f := by
  obtain ⟨D, h, r⟩ := h; exact ⟨D, h.mono hn, r⟩
theorem MapOk.kept {w w1 : World} {b n : Nat} {f : Int → Bool} {row : Option Nat} (h : MapOk w b n f) (hg : w.grownBy w1 row) (hne : some b ≠ row) : MapOk w1 b n f := by
  obtain ⟨D, h, r⟩ := h; exact ⟨D, h.kept hg hne, r⟩
theorem MapOk.made (w : World) : MapOk (w.alloc (.map #[] 0)) w.heap.size 0 (fun _ => false) :=
  ⟨.map [], World.ownsMap_made _ _ _ _, ⟨[], rfl⟩, fun _ _ => rfl⟩
theorem wp_look (w : World) {ops : Array Oper} {rest : List Oper} {o : Oper} {a : Act} {Q : Exit → Act → World → Prop} (hg : o.guard = none) (m x : Operand) (hop : o.op = Op.lookup 127 m x false)
  (b n : Nat) (f : Int → Bool) (hm : a.eval m = .map (some b)) (hown : MapOk w b n f) (key : Int) (hx : a.eval x = .int .i64 key) (hk : L.i64 key) (hK : wpList Try.prog ops Q rest (a.put o.dst (.int .i64 (b01 (f key)))) w) :
  wpList Try.prog ops Q (o :: rest) a w := by
 obtain ⟨D, hD, _, hf⟩ := hown
 refine wpList_lookup_own_int w hg m x 127 hop 3 3 .i64 law3 Try.underlying127 Try.underlying3 (zero3 w) b n D hm hD _ _ hx (keyOf_int_mk Try.underlying3 (wf_i64 hk)) ?_
 intro c hc _
 rw [hf key hk] at hc
 have e : b01 (f key) = c := by injection hc with hc; injection hc
 rw [← e]; exact hK
theorem wp_store (w : World) {ops : Array Oper} {rest : List Oper} {o : Oper} {a : Act} {Q : Exit → Act → World → Prop} (hg : o.guard = none) (m x v : Operand) (hop : o.op = Op.mapUpdate 127 m x v)
  (b n : Nat) (f : Int → Bool) (hm : a.eval m = .map (some b)) (hown : MapOk w b n f) (hn : n < maxLen) (key : Int) (hx : a.eval x = .int .i64 key) (hv : a.eval v = .int .i64 1) (hk : L.i64 key)
  (hK : ∀ w', MapOk w' b (n + 1) (fun y => f y || decide (y = key)) → w.grownBy w' (some b) → wpList Try.prog ops Q rest (a.put o.dst undef) w') :
  wpList Try.prog ops Q (o :: rest) a w := by
 obtain ⟨D, hD, hI, hf⟩ := hown
 refine wpList_mapUpdate_own w hg m x v 127 hop 3 3 law3 Try.underlying127 _ b n D hm hD hn _ _ _ hx hv (keyOf_int_mk Try.underlying3 (wf_i64 hk)) _ [] (plainElem_int Try.underlying3 (a := 1) (by decide)) ?_
 intro w' h' hgr
 refine hK w' ⟨_, h', hI.put _ _, fun y hy => ?_⟩ hgr
 by_cases e : y = key
 ·
  subst e
  rw [atKey_put_same (k := .int .i64 y) hI trivial]
  simp [b01]
 ·
  rw [atKey_put_other (k := .int .i64 key) (k' := .int .i64 y) (by intro h; injection h with h1 h2; exact e h2), hf y hy]
  simp [e]
structure Bk (w0 w : World) (bb md mb : Nat) (we : Int) (A : Option Addr) (c : Nat) (l : List S63) (n : Nat) (S f : Int → Bool) : Prop where
 bel : Below w0.heap.size w0 w
 blk : w.heap[bb]? = some (.cells #[.int .i64 we, .slice A l.length c, .map (some md), .map (some mb)] 129 (0, 0))
 gb : w0.heap.size ≤ bb
 gd : w0.heap.size ≤ md
 gm : w0.heap.size ≤ mb
 ne : md ≠ mb
 nd : bb ≠ md
 nm : bb ≠ mb
 dn : MapOk w md n S
 dy : MapOk w mb n f
section
variable {w0 w w1 : World} {bb md mb : Nat} {we : Int} {A : Option Addr} {c : Nat} {l : List S63} {n : Nat} {S f : Int → Bool}
theorem Bk.c0 (h : Bk w0 w bb md mb we A c l n S f) : w.cell? ⟨bb, 0, none⟩ = some (.int .i64 we) := (blk_cell h.blk 0).trans rfl
theorem Bk.c1 (h : Bk w0 w bb md mb we A c l n S f) : w.cell? ⟨bb, 1, none⟩ = some (.slice A l.length c) := (blk_cell h.blk 1).trans rfl
theorem Bk.c2 (h : Bk w0 w bb md mb we A c l n S f) : w.cell? ⟨bb, 2, none⟩ = some (.map (some md)) := (blk_cell h.blk 2).trans rfl
theorem Bk.c3 (h : Bk w0 w bb md mb we A c l n S f) : w.cell? ⟨bb, 3, none⟩ = some (.map (some mb)) := (blk_cell h.blk 3).trans rfl
theorem Bk.step (h : Bk w0 w bb md mb we A c l n S f) (hb : Below w.heap.size w w1) : Bk w0 w1 bb md mb we A c l n S f :=
  ⟨below_step h.bel hb, blk_below h.blk hb, h.gb, h.gd, h.gm, h.ne, h.nd, h.nm, h.dn.kept (grown_of_below hb none) (by simp), h.dy.kept (grown_of_below hb none) (by simp)⟩
theorem Bk.alloc (h : Bk w0 w bb md mb we A c l n S f) (o : Obj) : Bk w0 (w.alloc o) bb md mb we A c l n S f := h.step (below_alloc (Below.refl _ _) o)
theorem Bk.drewN (h : Bk w0 w bb md mb we A c l n S f) (k : Nat) : Bk w0 (w.drewN k) bb md mb we A c l n S f := h.step (pw_below_drewN (Below.refl _ _) k)
theorem Bk.drew (h : Bk w0 w bb md mb we A c l n S f) : Bk w0 w.drew bb md mb we A c l n S f := h.step (below_drew (Below.refl _ _))
theorem Bk.mono (h : Bk w0 w bb md mb we A c l n S f) {n' : Nat} (hn : n ≤ n') : Bk w0 w bb md mb we A c l n' S f :=
  ⟨h.bel, h.blk, h.gb, h.gd, h.gm, h.ne, h.nd, h.nm, h.dn.mono hn, h.dy.mono hn⟩
theorem Bk.stored_d {S' : Int → Bool} (h : Bk w0 w bb md mb we A c l n S f) (hg : w.grownBy w1 (some md)) (hm : MapOk w1 md (n + 1) S') : Bk w0 w1 bb md mb we A c l (n + 1) S' f :=
  ⟨pw_below_grown h.bel (some md) h.bel.size hg (by intro k hk; injection hk with hk; subst hk; exact h.gd), blk_grown h.blk hg (by have := h.nd; simpa using this), h.gb, h.gd, h.gm, h.ne, h.nd, h.nm, hm,
    (h.dy.kept hg (by have := h.ne; simp; omega)).mono (by omega)⟩
theorem Bk.stored_m {f' : Int → Bool} (h : Bk w0 w bb md mb we A c l n S f) (hg : w.grownBy w1 (some mb)) (hm : MapOk w1 mb (n + 1) f') : Bk w0 w1 bb md mb we A c l (n + 1) S f' :=
  ⟨pw_below_grown h.bel (some mb) h.bel.size hg (by intro k hk; injection hk with hk; subst hk; exact h.gm), blk_grown h.blk hg (by have := h.nm; simpa using this), h.gb, h.gd, h.gm, h.ne, h.nd, h.nm,
    (h.dn.kept hg (by have := h.ne; simp; omega)).mono (by omega), hm⟩
end
structure Ok (w0 : World) (we : Int) (A : Option Addr) (l : List S63) : Prop where
 rd : Kd.C k63 w0 A l.length l
 h0 : 0 ≤ we
 h1 : we ≤ 126
 len : l.length ≤ 64
 wf : ∀ x ∈ l, wfS x
 may : ∀ x ∈ l, M.may (ru x) = true
end Go.Proofs.Ytoncignjcgjhhaa.H
