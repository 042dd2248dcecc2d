/- Contracts of functions of the seat's program: each Go function's Lean function and its walk, written by a program of this session over the kit's print. Not trusted: Lean checks it. -/
import Derived.Test.YtoncignjcgjhhaaTGA
import Derived.Test.YtoncignjcgjhhaaTQx20
import Derived.Test.YtoncignjcgjhhaaTQx21
import Derived.Test.YtoncignjcgjhhaaTGK
import Derived.Test.YtoncignjcgjhhaaTQx73
import Derived.Test.YtoncignjcgjhhaaTQx74
set_option linter.unusedVariables false
set_option linter.unusedSimpArgs false
namespace Go.Proofs.Ytoncignjcgjhhaa.Q
open Go.RowKit Go.Proofs.YtoncignjcgjhhaaW.PrintWords Go.Proofs.YtoncignjcgjhhaaW.PrintLast Go.Proofs.YtoncignjcgjhhaaW.PrintMore
attribute [local go_sem] max2_int min2_int max_two min_two max_three min_three max_four min_four   -- for this text's walks alone
mutual
def tenorref8_point.j0 : Nat → Int → Int → Bool → Int → Int → Int → Int → Int → Int → Int → Int → Int → List (S63) → Option (Int × Bool)
  | 0, _, _, _, _, _, _, _, _, _, _, _, _, _ => none
  | k + 1, x1, x2, x28, x798000, x798001, x798002, x798003, x798004, x798005, x798006, x798007, x798008, x798009 => if x28 = true then (some (0, false)) else (if x798003 ≤ 2 then (if x798003 = 2 then ((tenorref8_in.f (wrap64 (x1 + (wrap64 ((wrap64 (7 * x2)) * x798002)))) 0 109572).bind fun t799 => (if t799 = true then (some (wrap64 (x1 + (wrap64 ((wrap64 (7 * x2)) * x798002))), true)) else (some (0, false)))) else ((tenorref8_in.f (wrap64 (x1 + (wrap64 (x2 * x798002)))) 0 109572).bind fun t800 => (if t800 = true then (some (wrap64 (x1 + (wrap64 (x2 * x798002))), true)) else (some (0, false))))) else (if x798003 = 4 then (tenorref8_point.j1 k x1 (wrap64 (12 * (wrap64 (x2 * x798002)))) x798000 x798001 x798002 x798003 x798004 x798005 x798006 x798007 x798008 x798009) else (tenorref8_point.j1 k x1 (wrap64 (x2 * x798002)) x798000 x798001 x798002 x798003 x798004 x798005 x798006 x798007 x798008 x798009)))
def tenorref8_point.j1 : Nat → Int → Int → Int → Int → Int → Int → Int → Int → Int → Int → Int → List (S63) → Option (Int × Bool)
  | 0, _, _, _, _, _, _, _, _, _, _, _, _ => none
  | k + 1, x1, x9, x798000, x798001, x798002, x798003, x798004, x798005, x798006, x798007, x798008, x798009 => (tenorref5_Civil.f k x1).bind fun bt801 => ((tenorref5_Month.f k bt801.1 bt801.2.1 bt801.2.2.1 x9).bind fun bt806 => (if bt806.2.2 = true then (if x798005 = 0 then ((tenorref5_Months.f k x1 x9 false).bind fun bt809 => (some (bt809.1, true))) else (if x798005 = 1 then ((tenorref5_Length.f k bt806.1 bt806.2.1).bind fun bt811 => ((tenorref5_Of.f k bt806.1 bt806.2.1 bt811.1).bind fun bt813 => (some (bt813.1, true)))) else ((tenorref5_Third.f k bt806.1 bt806.2.1).bind fun bt815 => (some (bt815.1, true))))) else (some (0, false))))
end
def tenorref8_point.f (k : Nat) (a0_0 : Int) (a0_1 : Int) (a0_2 : Int) (a0_3 : Int) (a0_4 : Int) (a0_5 : Int) (a0_6 : Int) (a0_7 : Int) (a0_8 : Int) (l0_9 : List (S63)) (a1 : Int) (a2 : Int) : Option (Int × Bool) := (tenorref8_in.f a1 0 109572).bind fun t798 => (if t798 = true then (if a2 < (-200000) then (tenorref8_point.j0 k a1 a2 true a0_0 a0_1 a0_2 a0_3 a0_4 a0_5 a0_6 a0_7 a0_8 l0_9) else (tenorref8_point.j0 k a1 a2 (decide (a2 > 200000)) a0_0 a0_1 a0_2 a0_3 a0_4 a0_5 a0_6 a0_7 a0_8 l0_9)) else (tenorref8_point.j0 k a1 a2 true a0_0 a0_1 a0_2 a0_3 a0_4 a0_5 a0_6 a0_7 a0_8 l0_9))
theorem tenorref8_point.mono_l : ∀ k, (∀ y0 y1 y2 y3 y4 y5 y6 y7 y8 y9 y10 y11 y12, LeO (tenorref8_point.j0 k y0 y1 y2 y3 y4 y5 y6 y7 y8 y9 y10 y11 y12) (tenorref8_point.j0 (k + 1) y0 y1 y2 y3 y4 y5 y6 y7 y8 y9 y10 y11 y12)) ∧ (∀ y0 y1 y2 y3 y4 y5 y6 y7 y8 y9 y10 y11, LeO (tenorref8_point.j1 k y0 y1 y2 y3 y4 y5 y6 y7 y8 y9 y10 y11) (tenorref8_point.j1 (k + 1) y0 y1 y2 y3 y4 y5 y6 y7 y8 y9 y10 y11))
 | 0 => ⟨fun _ _ _ _ _ _ _ _ _ _ _ _ _ r h => by simp [tenorref8_point.j0] at h, fun _ _ _ _ _ _ _ _ _ _ _ _ r h => by simp [tenorref8_point.j1] at h⟩
 | k + 1 => by
  obtain ⟨ih0, ih1⟩ := tenorref8_point.mono_l k
  refine ⟨?_, ?_⟩
  ·
   intro y0 y1 y2 y3 y4 y5 y6 y7 y8 y9 y10 y11 y12
   unfold tenorref8_point.j0
   repeat' first
   | (with_reducible exact ih0 _ _ _ _ _ _ _ _ _ _ _ _ _)
   | (with_reducible exact ih1 _ _ _ _ _ _ _ _ _ _ _ _)
   | (with_reducible exact tenorref5_Civil.mono _ _)
   | (with_reducible exact tenorref5_Length.mono _ _ _)
   | (with_reducible exact tenorref5_Month.mono _ _ _ _ _)
   | (with_reducible exact tenorref5_Months.mono _ _ _ _)
   | (with_reducible exact tenorref5_Of.mono _ _ _ _)
   | (with_reducible exact tenorref5_Third.mono _ _ _)
   | (with_reducible exact LeO.refl _)
   | (with_reducible exact LeO.none _)
   | (with_reducible refine LeO.ite ?_ ?_)
   | (with_reducible refine LeO.bind ?_ (fun _ => ?_))
   | exact ih0 _ _ _ _ _ _ _ _ _ _ _ _ _
   | exact ih1 _ _ _ _ _ _ _ _ _ _ _ _
   | exact tenorref5_Civil.mono _ _
   | exact tenorref5_Length.mono _ _ _
   | exact tenorref5_Month.mono _ _ _ _ _
   | exact tenorref5_Months.mono _ _ _ _
   | exact tenorref5_Of.mono _ _ _ _
   | exact tenorref5_Third.mono _ _ _
   | exact LeO.none _
   | refine LeO.ite ?_ ?_
   | refine LeO.bind ?_ (fun _ => ?_)
  ·
   intro y0 y1 y2 y3 y4 y5 y6 y7 y8 y9 y10 y11
   unfold tenorref8_point.j1
   repeat' first
   | (with_reducible exact ih0 _ _ _ _ _ _ _ _ _ _ _ _ _)
   | (with_reducible exact ih1 _ _ _ _ _ _ _ _ _ _ _ _)
   | (with_reducible exact tenorref5_Civil.mono _ _)
   | (with_reducible exact tenorref5_Length.mono _ _ _)
   | (with_reducible exact tenorref5_Month.mono _ _ _ _ _)
   | (with_reducible exact tenorref5_Months.mono _ _ _ _)
   | (with_reducible exact tenorref5_Of.mono _ _ _ _)
   | (with_reducible exact tenorref5_Third.mono _ _ _)
   | (with_reducible exact LeO.refl _)
   | (with_reducible exact LeO.none _)
   | (with_reducible refine LeO.ite ?_ ?_)
   | (with_reducible refine LeO.bind ?_ (fun _ => ?_))
   | exact ih0 _ _ _ _ _ _ _ _ _ _ _ _ _
   | exact ih1 _ _ _ _ _ _ _ _ _ _ _ _
   | exact tenorref5_Civil.mono _ _
   | exact tenorref5_Length.mono _ _ _
   | exact tenorref5_Month.mono _ _ _ _ _
   | exact tenorref5_Months.mono _ _ _ _
   | exact tenorref5_Of.mono _ _ _ _
   | exact tenorref5_Third.mono _ _ _
   | exact LeO.none _
   | refine LeO.ite ?_ ?_
   | refine LeO.bind ?_ (fun _ => ?_)
theorem tenorref8_point.mono : ∀ a0 a1 a2 a3 a4 a5 a6 a7 a8 a9 a10 a11 k, LeO (tenorref8_point.f k a0 a1 a2 a3 a4 a5 a6 a7 a8 a9 a10 a11) (tenorref8_point.f (k + 1) a0 a1 a2 a3 a4 a5 a6 a7 a8 a9 a10 a11) := by
 intro a0 a1 a2 a3 a4 a5 a6 a7 a8 a9 a10 a11 k
 obtain ⟨ih0, ih1⟩ := tenorref8_point.mono_l k
 unfold tenorref8_point.f
 repeat' first
   | (with_reducible exact ih0 _ _ _ _ _ _ _ _ _ _ _ _ _)
   | (with_reducible exact ih1 _ _ _ _ _ _ _ _ _ _ _ _)
   | (with_reducible exact tenorref5_Civil.mono _ _)
   | (with_reducible exact tenorref5_Length.mono _ _ _)
   | (with_reducible exact tenorref5_Month.mono _ _ _ _ _)
   | (with_reducible exact tenorref5_Months.mono _ _ _ _)
   | (with_reducible exact tenorref5_Of.mono _ _ _ _)
   | (with_reducible exact tenorref5_Third.mono _ _ _)
   | (with_reducible exact LeO.refl _)
   | (with_reducible exact LeO.none _)
   | (with_reducible refine LeO.ite ?_ ?_)
   | (with_reducible refine LeO.bind ?_ (fun _ => ?_))
   | exact ih0 _ _ _ _ _ _ _ _ _ _ _ _ _
   | exact ih1 _ _ _ _ _ _ _ _ _ _ _ _
   | exact tenorref5_Civil.mono _ _
   | exact tenorref5_Length.mono _ _ _
   | exact tenorref5_Month.mono _ _ _ _ _
   | exact tenorref5_Months.mono _ _ _ _
   | exact tenorref5_Of.mono _ _ _ _
   | exact tenorref5_Third.mono _ _ _
   | exact LeO.none _
   | refine LeO.ite ?_ ?_
   | refine LeO.bind ?_ (fun _ => ?_)
set_option maxHeartbeats 8000000 in
set_option maxRecDepth 100000 in
theorem tenorref8_point.calls (k : Nat) (a0_0 : Int) (a0_1 : Int) (a0_2 : Int) (a0_3 : Int) (a0_4 : Int) (a0_5 : Int) (a0_6 : Int) (a0_7 : Int) (a0_8 : Int) (A0_9 : Option Addr) (c0_9 : Nat) (l0_9 : List (S63)) (a1 : Int) (a2 : Int) (r1 : Int) (r2 : Bool) (w : World) (hr0_9 : Kd.C k63 w A0_9 l0_9.length l0_9) (hc0_9 : l0_9.length ≤ c0_9) (h : tenorref8_point.f k a0_0 a0_1 a0_2 a0_3 a0_4 a0_5 a0_6 a0_7 a0_8 l0_9 a1 a2 = some (r1, r2)) :
  Calls Try.prog 89 #[.agg #[.int .i64 a0_0, .int .i64 a0_1, .int .i64 a0_2, .int .i64 a0_3, .int .i64 a0_4, .int .i64 a0_5, .int .i64 a0_6, .int .i64 a0_7, .int .i64 a0_8, .slice A0_9 l0_9.length c0_9], .int .i64 a1, .int .i64 a2] w fun e w' => e = .returned (.tuple #[.int .i64 r1, .bool r2]) ∧ Below w.heap.size w w' := by
 have hu66 := Try.underlying66;have hu115 := Try.underlying115;have HR0_9 := Aside0.mk hr0_9;have HC0_9 := Aside0.mk hc0_9;clear hr0_9 hc0_9
 have HB := Aside0.mk (Below.refl w.heap.size w)
 have H : ((tenorref8_in.f a1 0 109572).bind fun t798 => (if t798 = true then (if a2 < (-200000) then (tenorref8_point.j0 k a1 a2 true a0_0 a0_1 a0_2 a0_3 a0_4 a0_5 a0_6 a0_7 a0_8 l0_9) else (tenorref8_point.j0 k a1 a2 (decide (a2 > 200000)) a0_0 a0_1 a0_2 a0_3 a0_4 a0_5 a0_6 a0_7 a0_8 l0_9)) else (tenorref8_point.j0 k a1 a2 true a0_0 a0_1 a0_2 a0_3 a0_4 a0_5 a0_6 a0_7 a0_8 l0_9))) = some (r1, r2) := h
 clear h;have HC4 := Aside0.mk H;clear H
 go_enter Try.func89, Try.ntmps89
 go_upto_region 1 with (first | ((with_reducible refine gate_dst (N := 3) rfl ?_); refine box_event ?hg (N := 3) ?hd (cs := #[.int .i64 a0_0, .int .i64 a0_1, .int .i64 a0_2, .int .i64 a0_3, .int .i64 a0_4, .int .i64 a0_5, .int .i64 a0_6, .int .i64 a0_7, .int .i64 a0_8, .slice A0_9 l0_9.length c0_9]) (t := 66) ?hr ?_; (case hd => rfl); (case hg => rfl); (case hr => first | (go_simp; done) | (go_simp; rfl)); intro gb797 hg w5 hbox hb; have n0_ := Aside0.mk (below_step (by repeat (first | (with_reducible first | exact HB.out | apply below_alloc | apply pw_below_drewN | apply below_drew1) | exact HB.out)) hb); have n1_ := Aside0.mk (hbox); have n2_ := Aside0.mk ((by rw [hg]; exact (below_size (by repeat (first | (with_reducible first | exact HB.out | apply below_alloc | apply pw_below_drewN | apply below_drew1) | exact HB.out))) : w.heap.size ≤ gb797)); have n3_ := Aside0.mk ((by rw [hg]; exact (below_size (by repeat (first | (with_reducible first | exact HB.out | apply below_alloc | apply pw_below_drewN | apply below_drew1) | exact HB.out))) : w.heap.size ≤ gb797)); clear HB; have HB := n0_; have BK797 := n1_; have GW797 := n2_; have GE797 := n3_; clear n0_ n1_ n2_ n3_; clear hb hbox hg))
 (try simp only [Act.put, List.setIfInBounds_toArray, List.set_cons_zero, List.set_cons_succ])
 go_cut [28] (fun v28 wc => ∃ (kq : Nat) (x28_3 : Bool), v28 = .bool x28_3 ∧ Aside0 (tenorref8_point.j0 kq a1 a2 x28_3 a0_0 a0_1 a0_2 a0_3 a0_4 a0_5 a0_6 a0_7 a0_8 l0_9 = some (r1, r2)) ∧ Aside0 (kq ≤ k) ∧ Aside0 (wc.heap[gb797]? = some (.cells #[.int .i64 a0_0, .int .i64 a0_1, .int .i64 a0_2, .int .i64 a0_3, .int .i64 a0_4, .int .i64 a0_5, .int .i64 a0_6, .int .i64 a0_7, .int .i64 a0_8, (.slice A0_9 l0_9.length c0_9)] 66 (0, 0))) ∧ Aside0 (Below w.heap.size w wc))
 case first =>
  have H := HC4.out;clear HC4;replace H := Option.bind_eq_some_iff.mp H
  obtain ⟨t798, A60, H⟩ := H
  replace H : (if t798 = true then (if a2 < (-200000) then (tenorref8_point.j0 k a1 a2 true a0_0 a0_1 a0_2 a0_3 a0_4 a0_5 a0_6 a0_7 a0_8 l0_9) else (tenorref8_point.j0 k a1 a2 (decide (a2 > 200000)) a0_0 a0_1 a0_2 a0_3 a0_4 a0_5 a0_6 a0_7 a0_8 l0_9)) else (tenorref8_point.j0 k a1 a2 true a0_0 a0_1 a0_2 a0_3 a0_4 a0_5 a0_6 a0_7 a0_8 l0_9)) = some (r1, r2) := H
  have A6 := Aside0.mk A60;clear A60
  by_cases c7 : t798 = true
  ·
   subst c7
   have H1 : (if a2 < (-200000) then (tenorref8_point.j0 k a1 a2 true a0_0 a0_1 a0_2 a0_3 a0_4 a0_5 a0_6 a0_7 a0_8 l0_9) else (tenorref8_point.j0 k a1 a2 (decide (a2 > 200000)) a0_0 a0_1 a0_2 a0_3 a0_4 a0_5 a0_6 a0_7 a0_8 l0_9)) = some (r1, r2) := by rw [if_pos rfl] at H; exact H
   clear H;have H := H1;clear H1
   by_cases c8 : a2 < (-200000)
   ·
    rw [if_pos c8] at H
    have c8b0 : decide (a2 < (-200000)) = true := decide_eq_true c8
    clear c8
    (first | rw [c8b0] | (simp only [i64_w, i32_w]; rw [c8b0]) | skip)
    have H' := Aside0.mk H;clear H
    go_wp2_with (first | ((with_reducible refine gate_callee (f := 92) rfl ?_); refine goesL_ (some 19) rfl rfl Try.func92 (by kernel_rfl) rfl #[.int .i64 a1, .int .i64 0, .int .i64 109572] rfl (by (try simp only [List.map_toArray, List.map_cons, List.map_nil]); first | done | rfl | (simp only [List.length_drop, List.length_take]; rfl)) ?_; (with_reducible refine (tenorref8_in.calls a1 0 109572 true _ A6.out).mono ?_); rintro e w' ⟨rfl, ⟨nd, rfl⟩⟩; refine ⟨_, rfl, ?_⟩))
    go_meet
    case rel => exact ⟨_, (true), (by first | rfl | (simp; done) | (simp [*]; done)), H', ⟨by first | omega | exact Nat.le_refl _⟩, ⟨by (with_reducible repeat (first | refine blk_drewN ?_ _ | refine blk_drew ?_ | refine blk_alloc ?_ _)); exact BK797.out⟩, ⟨by repeat (first | (with_reducible first | exact HB.out | apply below_alloc | apply pw_below_drewN | apply below_drew1 | refine below_set ?_ GE797.out) | exact HB.out)⟩⟩
   ·
    rw [if_neg c8] at H
    have c8b0 : decide (a2 < (-200000)) = false := decide_eq_false c8
    clear c8
    (first | rw [c8b0] | (simp only [i64_w, i32_w]; rw [c8b0]) | skip)
    have H' := Aside0.mk H;clear H
    go_wp2_with (first | ((with_reducible refine gate_callee (f := 92) rfl ?_); refine goesL_ (some 19) rfl rfl Try.func92 (by kernel_rfl) rfl #[.int .i64 a1, .int .i64 0, .int .i64 109572] rfl (by (try simp only [List.map_toArray, List.map_cons, List.map_nil]); first | done | rfl | (simp only [List.length_drop, List.length_take]; rfl)) ?_; (with_reducible refine (tenorref8_in.calls a1 0 109572 true _ A6.out).mono ?_); rintro e w' ⟨rfl, ⟨nd, rfl⟩⟩; refine ⟨_, rfl, ?_⟩))
    go_meet
    case rel => exact ⟨_, (decide (a2 > 200000)), (by first | rfl | (simp; done) | (simp [*]; done)), H', ⟨by first | omega | exact Nat.le_refl _⟩, ⟨by (with_reducible repeat (first | refine blk_drewN ?_ _ | refine blk_drew ?_ | refine blk_alloc ?_ _)); exact BK797.out⟩, ⟨by repeat (first | (with_reducible first | exact HB.out | apply below_alloc | apply pw_below_drewN | apply below_drew1 | refine below_set ?_ GE797.out) | exact HB.out)⟩⟩
  ·
   replace c7 := Bool.eq_false_iff.mpr c7;subst c7
   have H1 : (tenorref8_point.j0 k a1 a2 true a0_0 a0_1 a0_2 a0_3 a0_4 a0_5 a0_6 a0_7 a0_8 l0_9) = some (r1, r2) := by rw [if_neg (show ¬ (false = true) by decide)] at H; exact H
   clear H;have H := H1;clear H1;have H' := Aside0.mk H;clear H
   go_wp2_with (first | ((with_reducible refine gate_callee (f := 92) rfl ?_); refine goesL_ (some 19) rfl rfl Try.func92 (by kernel_rfl) rfl #[.int .i64 a1, .int .i64 0, .int .i64 109572] rfl (by (try simp only [List.map_toArray, List.map_cons, List.map_nil]); first | done | rfl | (simp only [List.length_drop, List.length_take]; rfl)) ?_; (with_reducible refine (tenorref8_in.calls a1 0 109572 false _ A6.out).mono ?_); rintro e w' ⟨rfl, ⟨nd, rfl⟩⟩; refine ⟨_, rfl, ?_⟩))
   go_meet
   case rel => exact ⟨_, (true), (by first | rfl | (simp; done) | (simp [*]; done)), H', ⟨by first | omega | exact Nat.le_refl _⟩, ⟨by (with_reducible repeat (first | refine blk_drewN ?_ _ | refine blk_drew ?_ | refine blk_alloc ?_ _)); exact BK797.out⟩, ⟨by repeat (first | (with_reducible first | exact HB.out | apply below_alloc | apply pw_below_drewN | apply below_drew1 | refine below_set ?_ GE797.out) | exact HB.out)⟩⟩
 case rest =>
  clear HC4
  obtain ⟨kq, x28_3, rfl, HA, HJ3, BK797, HB⟩ := hcut
  cases kq with
  | zero => exact absurd HA.out (by simp [tenorref8_point.j0])
  | succ kj3 =>
   have H := HA.out;clear HA
   simp only [tenorref8_point.j0] at H
   by_cases c9 : x28_3 = true
   ·
    subst c9
    have H1 : (some (0, false)) = some (r1, r2) := by rw [if_pos rfl] at H; exact H
    clear H;have H := H1;clear H1
    simp only [Option.some.injEq, Prod.mk.injEq] at H
    obtain ⟨rfl, rfl⟩ := H
    go_wp2
    go_ret2
    exact ⟨by first | rfl | (simp [errW_none, errW_some] <;> rfl) | (simp [*, errW_none, errW_some] <;> rfl), by repeat (first | (with_reducible first | exact HB.out | apply below_alloc | apply pw_below_drewN | apply below_drew1 | refine below_set ?_ GE797.out) | exact HB.out)⟩
   ·
    replace c9 := Bool.eq_false_iff.mpr c9;subst c9
    have H1 : (if a0_3 ≤ 2 then (if a0_3 = 2 then ((tenorref8_in.f (wrap64 (a1 + (wrap64 ((wrap64 (7 * a2)) * a0_2)))) 0 109572).bind fun t799 => (if t799 = true then (some (wrap64 (a1 + (wrap64 ((wrap64 (7 * a2)) * a0_2))), true)) else (some (0, false)))) else ((tenorref8_in.f (wrap64 (a1 + (wrap64 (a2 * a0_2)))) 0 109572).bind fun t800 => (if t800 = true then (some (wrap64 (a1 + (wrap64 (a2 * a0_2))), true)) else (some (0, false))))) else (if a0_3 = 4 then (tenorref8_point.j1 kj3 a1 (wrap64 (12 * (wrap64 (a2 * a0_2)))) a0_0 a0_1 a0_2 a0_3 a0_4 a0_5 a0_6 a0_7 a0_8 l0_9) else (tenorref8_point.j1 kj3 a1 (wrap64 (a2 * a0_2)) a0_0 a0_1 a0_2 a0_3 a0_4 a0_5 a0_6 a0_7 a0_8 l0_9))) = some (r1, r2) := by rw [if_neg (show ¬ (false = true) by decide)] at H; exact H
    clear H;have H := H1;clear H1
    by_cases c10 : a0_3 ≤ 2
    ·
     rw [if_pos c10] at H
     have c10b0 : decide (a0_3 ≤ 2) = true := decide_eq_true c10
     clear c10
     by_cases c11 : a0_3 = 2
     ·
      rw [if_pos c11] at H
      have c11b0 : (a0_3 == 2) = true := beq_iff_eq.mpr c11
      have c11b1 : (a0_3 != 2) = false := bne_eq_false_iff_eq.mpr c11
      clear c11;replace H := Option.bind_eq_some_iff.mp H
      obtain ⟨t799, A120, H⟩ := H
      replace H : (if t799 = true then (some (wrap64 (a1 + (wrap64 ((wrap64 (7 * a2)) * a0_2))), true)) else (some (0, false))) = some (r1, r2) := H
      have A12 := Aside0.mk A120;clear A120
      by_cases c13 : t799 = true
      ·
       subst c13
       have H1 : (some (wrap64 (a1 + (wrap64 ((wrap64 (7 * a2)) * a0_2))), true)) = some (r1, r2) := by rw [if_pos rfl] at H; exact H
       clear H;have H := H1;clear H1
       simp only [Option.some.injEq, Prod.mk.injEq] at H
       obtain ⟨rfl, rfl⟩ := H
       have hcz14_0 : wc.cell? ⟨gb797, 0, none⟩ = some (.int .i64 a0_0) := (blk_cell BK797.out 0).trans rfl
       have hcz14_1 : wc.cell? ⟨gb797, 1, none⟩ = some (.int .i64 a0_1) := (blk_cell BK797.out 1).trans rfl
       have hcz14_2 : wc.cell? ⟨gb797, 2, none⟩ = some (.int .i64 a0_2) := (blk_cell BK797.out 2).trans rfl
       have hcz14_3 : wc.cell? ⟨gb797, 3, none⟩ = some (.int .i64 a0_3) := (blk_cell BK797.out 3).trans rfl
       have hcz14_4 : wc.cell? ⟨gb797, 4, none⟩ = some (.int .i64 a0_4) := (blk_cell BK797.out 4).trans rfl
       have hcz14_5 : wc.cell? ⟨gb797, 5, none⟩ = some (.int .i64 a0_5) := (blk_cell BK797.out 5).trans rfl
       have hcz14_6 : wc.cell? ⟨gb797, 6, none⟩ = some (.int .i64 a0_6) := (blk_cell BK797.out 6).trans rfl
       have hcz14_7 : wc.cell? ⟨gb797, 7, none⟩ = some (.int .i64 a0_7) := (blk_cell BK797.out 7).trans rfl
       have hcz14_8 : wc.cell? ⟨gb797, 8, none⟩ = some (.int .i64 a0_8) := (blk_cell BK797.out 8).trans rfl
       have hcz14_9 : wc.cell? ⟨gb797, 9, none⟩ = some (.slice A0_9 l0_9.length c0_9) := (blk_cell BK797.out 9).trans rfl
       have hfz14_0 := blk_frozen BK797.out 0;have hfz14_1 := blk_frozen BK797.out 1;have hfz14_2 := blk_frozen BK797.out 2;have hfz14_3 := blk_frozen BK797.out 3;have hfz14_4 := blk_frozen BK797.out 4;have hfz14_5 := blk_frozen BK797.out 5;have hfz14_6 := blk_frozen BK797.out 6;have hfz14_7 := blk_frozen BK797.out 7;have hfz14_8 := blk_frozen BK797.out 8;have hfz14_9 := blk_frozen BK797.out 9
       go_wp2_with (first | ((with_reducible refine gate_callee (f := 92) rfl ?_); refine goesL_ (some 49) rfl rfl Try.func92 (by kernel_rfl) rfl #[.int .i64 (wrap64 (a1 + (wrap64 ((wrap64 (7 * a2)) * a0_2)))), .int .i64 0, .int .i64 109572] rfl (by (try simp only [List.map_toArray, List.map_cons, List.map_nil]); first | done | rfl | (simp only [List.length_drop, List.length_take]; rfl)) ?_; (with_reducible refine (tenorref8_in.calls (wrap64 (a1 + (wrap64 ((wrap64 (7 * a2)) * a0_2)))) 0 109572 true _ A12.out).mono ?_); rintro e w' ⟨rfl, ⟨nd, rfl⟩⟩; refine ⟨_, rfl, ?_⟩))
       go_ret2
       exact ⟨by first | rfl | (simp [errW_none, errW_some] <;> rfl) | (simp [*, errW_none, errW_some] <;> rfl), by repeat (first | (with_reducible first | exact HB.out | apply below_alloc | apply pw_below_drewN | apply below_drew1 | refine below_set ?_ GE797.out) | exact HB.out)⟩
      ·
       replace c13 := Bool.eq_false_iff.mpr c13;subst c13
       have H1 : (some (0, false)) = some (r1, r2) := by rw [if_neg (show ¬ (false = true) by decide)] at H; exact H
       clear H;have H := H1;clear H1
       simp only [Option.some.injEq, Prod.mk.injEq] at H
       obtain ⟨rfl, rfl⟩ := H
       have hcz15_0 : wc.cell? ⟨gb797, 0, none⟩ = some (.int .i64 a0_0) := (blk_cell BK797.out 0).trans rfl
       have hcz15_1 : wc.cell? ⟨gb797, 1, none⟩ = some (.int .i64 a0_1) := (blk_cell BK797.out 1).trans rfl
       have hcz15_2 : wc.cell? ⟨gb797, 2, none⟩ = some (.int .i64 a0_2) := (blk_cell BK797.out 2).trans rfl
       have hcz15_3 : wc.cell? ⟨gb797, 3, none⟩ = some (.int .i64 a0_3) := (blk_cell BK797.out 3).trans rfl
       have hcz15_4 : wc.cell? ⟨gb797, 4, none⟩ = some (.int .i64 a0_4) := (blk_cell BK797.out 4).trans rfl
       have hcz15_5 : wc.cell? ⟨gb797, 5, none⟩ = some (.int .i64 a0_5) := (blk_cell BK797.out 5).trans rfl
       have hcz15_6 : wc.cell? ⟨gb797, 6, none⟩ = some (.int .i64 a0_6) := (blk_cell BK797.out 6).trans rfl
       have hcz15_7 : wc.cell? ⟨gb797, 7, none⟩ = some (.int .i64 a0_7) := (blk_cell BK797.out 7).trans rfl
       have hcz15_8 : wc.cell? ⟨gb797, 8, none⟩ = some (.int .i64 a0_8) := (blk_cell BK797.out 8).trans rfl
       have hcz15_9 : wc.cell? ⟨gb797, 9, none⟩ = some (.slice A0_9 l0_9.length c0_9) := (blk_cell BK797.out 9).trans rfl
       have hfz15_0 := blk_frozen BK797.out 0;have hfz15_1 := blk_frozen BK797.out 1;have hfz15_2 := blk_frozen BK797.out 2;have hfz15_3 := blk_frozen BK797.out 3;have hfz15_4 := blk_frozen BK797.out 4;have hfz15_5 := blk_frozen BK797.out 5;have hfz15_6 := blk_frozen BK797.out 6;have hfz15_7 := blk_frozen BK797.out 7;have hfz15_8 := blk_frozen BK797.out 8;have hfz15_9 := blk_frozen BK797.out 9
       go_wp2_with (first | ((with_reducible refine gate_callee (f := 92) rfl ?_); refine goesL_ (some 49) rfl rfl Try.func92 (by kernel_rfl) rfl #[.int .i64 (wrap64 (a1 + (wrap64 ((wrap64 (7 * a2)) * a0_2)))), .int .i64 0, .int .i64 109572] rfl (by (try simp only [List.map_toArray, List.map_cons, List.map_nil]); first | done | rfl | (simp only [List.length_drop, List.length_take]; rfl)) ?_; (with_reducible refine (tenorref8_in.calls (wrap64 (a1 + (wrap64 ((wrap64 (7 * a2)) * a0_2)))) 0 109572 false _ A12.out).mono ?_); rintro e w' ⟨rfl, ⟨nd, rfl⟩⟩; refine ⟨_, rfl, ?_⟩))
       go_ret2
       exact ⟨by first | rfl | (simp [errW_none, errW_some] <;> rfl) | (simp [*, errW_none, errW_some] <;> rfl), by repeat (first | (with_reducible first | exact HB.out | apply below_alloc | apply pw_below_drewN | apply below_drew1 | refine below_set ?_ GE797.out) | exact HB.out)⟩
     ·
      rw [if_neg c11] at H
      have c11b0 : (a0_3 == 2) = false := beq_eq_false_iff_ne.mpr c11
      have c11b1 : (a0_3 != 2) = true := bne_iff_ne.mpr c11
      replace H := Option.bind_eq_some_iff.mp H
      obtain ⟨t800, A160, H⟩ := H
      replace H : (if t800 = true then (some (wrap64 (a1 + (wrap64 (a2 * a0_2))), true)) else (some (0, false))) = some (r1, r2) := H
      have A16 := Aside0.mk A160;clear A160
      by_cases c17 : t800 = true
      ·
       subst c17
       have H1 : (some (wrap64 (a1 + (wrap64 (a2 * a0_2))), true)) = some (r1, r2) := by rw [if_pos rfl] at H; exact H
       clear H;have H := H1;clear H1
       simp only [Option.some.injEq, Prod.mk.injEq] at H
       obtain ⟨rfl, rfl⟩ := H
       have hcz18_0 : wc.cell? ⟨gb797, 0, none⟩ = some (.int .i64 a0_0) := (blk_cell BK797.out 0).trans rfl
       have hcz18_1 : wc.cell? ⟨gb797, 1, none⟩ = some (.int .i64 a0_1) := (blk_cell BK797.out 1).trans rfl
       have hcz18_2 : wc.cell? ⟨gb797, 2, none⟩ = some (.int .i64 a0_2) := (blk_cell BK797.out 2).trans rfl
       have hcz18_3 : wc.cell? ⟨gb797, 3, none⟩ = some (.int .i64 a0_3) := (blk_cell BK797.out 3).trans rfl
       have hcz18_4 : wc.cell? ⟨gb797, 4, none⟩ = some (.int .i64 a0_4) := (blk_cell BK797.out 4).trans rfl
       have hcz18_5 : wc.cell? ⟨gb797, 5, none⟩ = some (.int .i64 a0_5) := (blk_cell BK797.out 5).trans rfl
       have hcz18_6 : wc.cell? ⟨gb797, 6, none⟩ = some (.int .i64 a0_6) := (blk_cell BK797.out 6).trans rfl
       have hcz18_7 : wc.cell? ⟨gb797, 7, none⟩ = some (.int .i64 a0_7) := (blk_cell BK797.out 7).trans rfl
       have hcz18_8 : wc.cell? ⟨gb797, 8, none⟩ = some (.int .i64 a0_8) := (blk_cell BK797.out 8).trans rfl
       have hcz18_9 : wc.cell? ⟨gb797, 9, none⟩ = some (.slice A0_9 l0_9.length c0_9) := (blk_cell BK797.out 9).trans rfl
       have hfz18_0 := blk_frozen BK797.out 0;have hfz18_1 := blk_frozen BK797.out 1;have hfz18_2 := blk_frozen BK797.out 2;have hfz18_3 := blk_frozen BK797.out 3;have hfz18_4 := blk_frozen BK797.out 4;have hfz18_5 := blk_frozen BK797.out 5;have hfz18_6 := blk_frozen BK797.out 6;have hfz18_7 := blk_frozen BK797.out 7;have hfz18_8 := blk_frozen BK797.out 8;have hfz18_9 := blk_frozen BK797.out 9
       go_wp2_with (first | ((with_reducible refine gate_callee (f := 92) rfl ?_); refine goesL_ (some 49) rfl rfl Try.func92 (by kernel_rfl) rfl #[.int .i64 (wrap64 (a1 + (wrap64 (a2 * a0_2)))), .int .i64 0, .int .i64 109572] rfl (by (try simp only [List.map_toArray, List.map_cons, List.map_nil]); first | done | rfl | (simp only [List.length_drop, List.length_take]; rfl)) ?_; (with_reducible refine (tenorref8_in.calls (wrap64 (a1 + (wrap64 (a2 * a0_2)))) 0 109572 true _ A16.out).mono ?_); rintro e w' ⟨rfl, ⟨nd, rfl⟩⟩; refine ⟨_, rfl, ?_⟩))
       go_ret2
       exact ⟨by first | rfl | (simp [errW_none, errW_some] <;> rfl) | (simp [*, errW_none, errW_some] <;> rfl), by repeat (first | (with_reducible first | exact HB.out | apply below_alloc | apply pw_below_drewN | apply below_drew1 | refine below_set ?_ GE797.out) | exact HB.out)⟩
      ·
       replace c17 := Bool.eq_false_iff.mpr c17;subst c17
       have H1 : (some (0, false)) = some (r1, r2) := by rw [if_neg (show ¬ (false = true) by decide)] at H; exact H
       clear H;have H := H1;clear H1
       simp only [Option.some.injEq, Prod.mk.injEq] at H
       obtain ⟨rfl, rfl⟩ := H
       have hcz19_0 : wc.cell? ⟨gb797, 0, none⟩ = some (.int .i64 a0_0) := (blk_cell BK797.out 0).trans rfl
       have hcz19_1 : wc.cell? ⟨gb797, 1, none⟩ = some (.int .i64 a0_1) := (blk_cell BK797.out 1).trans rfl
       have hcz19_2 : wc.cell? ⟨gb797, 2, none⟩ = some (.int .i64 a0_2) := (blk_cell BK797.out 2).trans rfl
       have hcz19_3 : wc.cell? ⟨gb797, 3, none⟩ = some (.int .i64 a0_3) := (blk_cell BK797.out 3).trans rfl
       have hcz19_4 : wc.cell? ⟨gb797, 4, none⟩ = some (.int .i64 a0_4) := (blk_cell BK797.out 4).trans rfl
       have hcz19_5 : wc.cell? ⟨gb797, 5, none⟩ = some (.int .i64 a0_5) := (blk_cell BK797.out 5).trans rfl
       have hcz19_6 : wc.cell? ⟨gb797, 6, none⟩ = some (.int .i64 a0_6) := (blk_cell BK797.out 6).trans rfl
       have hcz19_7 : wc.cell? ⟨gb797, 7, none⟩ = some (.int .i64 a0_7) := (blk_cell BK797.out 7).trans rfl
       have hcz19_8 : wc.cell? ⟨gb797, 8, none⟩ = some (.int .i64 a0_8) := (blk_cell BK797.out 8).trans rfl
       have hcz19_9 : wc.cell? ⟨gb797, 9, none⟩ = some (.slice A0_9 l0_9.length c0_9) := (blk_cell BK797.out 9).trans rfl
       have hfz19_0 := blk_frozen BK797.out 0;have hfz19_1 := blk_frozen BK797.out 1;have hfz19_2 := blk_frozen BK797.out 2;have hfz19_3 := blk_frozen BK797.out 3;have hfz19_4 := blk_frozen BK797.out 4;have hfz19_5 := blk_frozen BK797.out 5;have hfz19_6 := blk_frozen BK797.out 6;have hfz19_7 := blk_frozen BK797.out 7;have hfz19_8 := blk_frozen BK797.out 8;have hfz19_9 := blk_frozen BK797.out 9
       go_wp2_with (first | ((with_reducible refine gate_callee (f := 92) rfl ?_); refine goesL_ (some 49) rfl rfl Try.func92 (by kernel_rfl) rfl #[.int .i64 (wrap64 (a1 + (wrap64 (a2 * a0_2)))), .int .i64 0, .int .i64 109572] rfl (by (try simp only [List.map_toArray, List.map_cons, List.map_nil]); first | done | rfl | (simp only [List.length_drop, List.length_take]; rfl)) ?_; (with_reducible refine (tenorref8_in.calls (wrap64 (a1 + (wrap64 (a2 * a0_2)))) 0 109572 false _ A16.out).mono ?_); rintro e w' ⟨rfl, ⟨nd, rfl⟩⟩; refine ⟨_, rfl, ?_⟩))
       go_ret2
       exact ⟨by first | rfl | (simp [errW_none, errW_some] <;> rfl) | (simp [*, errW_none, errW_some] <;> rfl), by repeat (first | (with_reducible first | exact HB.out | apply below_alloc | apply pw_below_drewN | apply below_drew1 | refine below_set ?_ GE797.out) | exact HB.out)⟩
    ·
     rw [if_neg c10] at H
     have c10b0 : decide (a0_3 ≤ 2) = false := decide_eq_false c10
     clear c10;have HC20 := Aside0.mk H;clear H
     have hcz21_0 : wc.cell? ⟨gb797, 0, none⟩ = some (.int .i64 a0_0) := (blk_cell BK797.out 0).trans rfl
     have hcz21_1 : wc.cell? ⟨gb797, 1, none⟩ = some (.int .i64 a0_1) := (blk_cell BK797.out 1).trans rfl
     have hcz21_2 : wc.cell? ⟨gb797, 2, none⟩ = some (.int .i64 a0_2) := (blk_cell BK797.out 2).trans rfl
     have hcz21_3 : wc.cell? ⟨gb797, 3, none⟩ = some (.int .i64 a0_3) := (blk_cell BK797.out 3).trans rfl
     have hcz21_4 : wc.cell? ⟨gb797, 4, none⟩ = some (.int .i64 a0_4) := (blk_cell BK797.out 4).trans rfl
     have hcz21_5 : wc.cell? ⟨gb797, 5, none⟩ = some (.int .i64 a0_5) := (blk_cell BK797.out 5).trans rfl
     have hcz21_6 : wc.cell? ⟨gb797, 6, none⟩ = some (.int .i64 a0_6) := (blk_cell BK797.out 6).trans rfl
     have hcz21_7 : wc.cell? ⟨gb797, 7, none⟩ = some (.int .i64 a0_7) := (blk_cell BK797.out 7).trans rfl
     have hcz21_8 : wc.cell? ⟨gb797, 8, none⟩ = some (.int .i64 a0_8) := (blk_cell BK797.out 8).trans rfl
     have hcz21_9 : wc.cell? ⟨gb797, 9, none⟩ = some (.slice A0_9 l0_9.length c0_9) := (blk_cell BK797.out 9).trans rfl
     have hfz21_0 := blk_frozen BK797.out 0;have hfz21_1 := blk_frozen BK797.out 1;have hfz21_2 := blk_frozen BK797.out 2;have hfz21_3 := blk_frozen BK797.out 3;have hfz21_4 := blk_frozen BK797.out 4;have hfz21_5 := blk_frozen BK797.out 5;have hfz21_6 := blk_frozen BK797.out 6;have hfz21_7 := blk_frozen BK797.out 7;have hfz21_8 := blk_frozen BK797.out 8;have hfz21_9 := blk_frozen BK797.out 9
     go_upto_if 58 with (fail)
     go_cut [9] (fun v9 wc => ∃ (kq : Nat) (x9_19 : Int), v9 = .int .i64 x9_19 ∧ Aside0 (tenorref8_point.j1 kq a1 x9_19 a0_0 a0_1 a0_2 a0_3 a0_4 a0_5 a0_6 a0_7 a0_8 l0_9 = some (r1, r2)) ∧ Aside0 (kq ≤ kj3) ∧ Aside0 (wc.heap[gb797]? = some (.cells #[.int .i64 a0_0, .int .i64 a0_1, .int .i64 a0_2, .int .i64 a0_3, .int .i64 a0_4, .int .i64 a0_5, .int .i64 a0_6, .int .i64 a0_7, .int .i64 a0_8, (.slice A0_9 l0_9.length c0_9)] 66 (0, 0))) ∧ Aside0 (Below w.heap.size w wc))
     case first =>
      have H := HC20.out;clear HC20
      by_cases c22 : a0_3 = 4
      ·
       rw [if_pos c22] at H
       have c22b0 : (a0_3 == 4) = true := beq_iff_eq.mpr c22
       have c22b1 : (a0_3 != 4) = false := bne_eq_false_iff_eq.mpr c22
       clear c22
       (first | rw [c22b0] | (simp only [i64_w, i32_w]; rw [c22b0]) | skip)
       have H' := Aside0.mk H;clear H
       go_wp2
       go_meet
       case rel => exact ⟨_, (wrap64 (12 * (wrap64 (a2 * a0_2)))), (by first | rfl | (simp; done) | (simp [*]; done)), H', ⟨by have := HJ3.out; first | omega | exact Nat.le_refl _⟩, ⟨by (with_reducible repeat (first | refine blk_drewN ?_ _ | refine blk_drew ?_ | refine blk_alloc ?_ _)); exact BK797.out⟩, ⟨by repeat (first | (with_reducible first | exact HB.out | apply below_alloc | apply pw_below_drewN | apply below_drew1 | refine below_set ?_ GE797.out) | exact HB.out)⟩⟩
      ·
       rw [if_neg c22] at H
       have c22b0 : (a0_3 == 4) = false := beq_eq_false_iff_ne.mpr c22
       have c22b1 : (a0_3 != 4) = true := bne_iff_ne.mpr c22
       (first | rw [c22b0] | (simp only [i64_w, i32_w]; rw [c22b0]) | skip)
       have H' := Aside0.mk H;clear H
       go_wp2
       go_meet
       case rel => exact ⟨_, (wrap64 (a2 * a0_2)), (by first | rfl | (simp; done) | (simp [*]; done)), H', ⟨by have := HJ3.out; first | omega | exact Nat.le_refl _⟩, ⟨by (with_reducible repeat (first | refine blk_drewN ?_ _ | refine blk_drew ?_ | refine blk_alloc ?_ _)); exact BK797.out⟩, ⟨by repeat (first | (with_reducible first | exact HB.out | apply below_alloc | apply pw_below_drewN | apply below_drew1 | refine below_set ?_ GE797.out) | exact HB.out)⟩⟩
     case rest =>
      clear HC20
      obtain ⟨kq, x9_19, rfl, HA, HJ19, BK797, HB⟩ := hcut
      cases kq with
      | zero => exact absurd HA.out (by simp [tenorref8_point.j1])
      | succ kj19 =>
       have H := HA.out;clear HA
       simp only [tenorref8_point.j1] at H
       replace H := Option.bind_eq_some_iff.mp H
       obtain ⟨⟨t801, t802, t803, t804⟩, A230, H⟩ := H
       replace H : ((tenorref5_Month.f kj19 t801 t802 t803 x9_19).bind fun bt806 => (if bt806.2.2 = true then (if a0_5 = 0 then ((tenorref5_Months.f kj19 a1 x9_19 false).bind fun bt809 => (some (bt809.1, true))) else (if a0_5 = 1 then ((tenorref5_Length.f kj19 bt806.1 bt806.2.1).bind fun bt811 => ((tenorref5_Of.f kj19 bt806.1 bt806.2.1 bt811.1).bind fun bt813 => (some (bt813.1, true)))) else ((tenorref5_Third.f kj19 bt806.1 bt806.2.1).bind fun bt815 => (some (bt815.1, true))))) else (some (0, false)))) = some (r1, r2) := H
       have A23 := Aside0.mk A230;clear A230;replace H := Option.bind_eq_some_iff.mp H
       obtain ⟨⟨t806, t807, t808⟩, A240, H⟩ := H
       replace H : (if t808 = true then (if a0_5 = 0 then ((tenorref5_Months.f kj19 a1 x9_19 false).bind fun bt809 => (some (bt809.1, true))) else (if a0_5 = 1 then ((tenorref5_Length.f kj19 t806 t807).bind fun bt811 => ((tenorref5_Of.f kj19 t806 t807 bt811.1).bind fun bt813 => (some (bt813.1, true)))) else ((tenorref5_Third.f kj19 t806 t807).bind fun bt815 => (some (bt815.1, true))))) else (some (0, false))) = some (r1, r2) := H
       have A24 := Aside0.mk A240;clear A240
       by_cases c25 : t808 = true
       ·
        subst c25
        have H1 : (if a0_5 = 0 then ((tenorref5_Months.f kj19 a1 x9_19 false).bind fun bt809 => (some (bt809.1, true))) else (if a0_5 = 1 then ((tenorref5_Length.f kj19 t806 t807).bind fun bt811 => ((tenorref5_Of.f kj19 t806 t807 bt811.1).bind fun bt813 => (some (bt813.1, true)))) else ((tenorref5_Third.f kj19 t806 t807).bind fun bt815 => (some (bt815.1, true))))) = some (r1, r2) := by rw [if_pos rfl] at H; exact H
        clear H;have H := H1;clear H1
        by_cases c26 : a0_5 = 0
        ·
         rw [if_pos c26] at H
         have c26b0 : (a0_5 == 0) = true := beq_iff_eq.mpr c26
         have c26b1 : (a0_5 != 0) = false := bne_eq_false_iff_eq.mpr c26
         clear c26;replace H := Option.bind_eq_some_iff.mp H
         obtain ⟨⟨t809, t810⟩, A270, H⟩ := H
         replace H : (some (t809, true)) = some (r1, r2) := H
         have A27 := Aside0.mk A270;clear A270
         simp only [Option.some.injEq, Prod.mk.injEq] at H
         obtain ⟨rfl, rfl⟩ := H
         go_wp2_with (first | ((with_reducible refine gate_callee (f := 96) rfl ?_); refine goesL_ (some 63) rfl rfl Try.func96 (by kernel_rfl) rfl #[.int .i64 a1] rfl (by (try simp only [List.map_toArray, List.map_cons, List.map_nil]); first | done | rfl | (simp only [List.length_drop, List.length_take]; rfl)) ?_; (with_reducible refine (tenorref5_Civil.calls kj19 a1 t801 t802 t803 t804 _ A23.out).mono ?_); rintro e w28 ⟨rfl, hb⟩; refine ⟨_, rfl, ?_⟩; have n0_ := Aside0.mk (blk_below (g := gb797) (o := .cells #[.int .i64 a0_0, .int .i64 a0_1, .int .i64 a0_2, .int .i64 a0_3, .int .i64 a0_4, .int .i64 a0_5, .int .i64 a0_6, .int .i64 a0_7, .int .i64 a0_8, .slice A0_9 l0_9.length c0_9] 66 (0, 0)) (by (with_reducible repeat (first | refine blk_drewN ?_ _ | refine blk_drew ?_ | refine blk_alloc ?_ _)); exact BK797.out) hb); have n1_ := Aside0.mk (below_step (by repeat (first | (with_reducible first | exact HB.out | apply below_alloc | apply pw_below_drewN | apply below_drew1 | refine below_set ?_ GE797.out) | exact HB.out)) hb); clear BK797; clear HB; have BK797 := n0_; have HB := n1_; clear n0_ n1_; (try clear hb); (try clear hb2); (try clear hk); (try clear hi)) | ((with_reducible refine gate_dst (N := 10) rfl ?_); refine box_event ?hg (N := 10) ?hd (cs := #[.int .i64 0, .int .i64 0, .int .i64 0]) (t := 115) ?hr ?_; (case hd => rfl); (case hg => rfl); (case hr => first | (go_simp; done) | (go_simp; rfl)); intro gb805 hg w29 hbox hb; have n0_ := Aside0.mk (blk_below (g := gb797) (o := .cells #[.int .i64 a0_0, .int .i64 a0_1, .int .i64 a0_2, .int .i64 a0_3, .int .i64 a0_4, .int .i64 a0_5, .int .i64 a0_6, .int .i64 a0_7, .int .i64 a0_8, .slice A0_9 l0_9.length c0_9] 66 (0, 0)) (by (with_reducible repeat (first | refine blk_drewN ?_ _ | refine blk_drew ?_ | refine blk_alloc ?_ _)); exact BK797.out) hb); have n1_ := Aside0.mk (below_step (by repeat (first | (with_reducible first | exact HB.out | apply below_alloc | apply pw_below_drewN | apply below_drew1 | refine below_set ?_ GE797.out) | exact HB.out)) hb); have n2_ := Aside0.mk (hbox); have n3_ := Aside0.mk ((by rw [hg]; exact (below_size (by repeat (first | (with_reducible first | exact HB.out | apply below_alloc | apply pw_below_drewN | apply below_drew1 | refine below_set ?_ GE797.out) | exact HB.out))) : w.heap.size ≤ gb805)); have n4_ := Aside0.mk ((by rw [hg]; exact (below_size (by repeat (first | (with_reducible first | exact HB.out | apply below_alloc | apply pw_below_drewN | apply below_drew1 | refine below_set ?_ GE797.out) | exact HB.out))) : w.heap.size ≤ gb805)); have n5_ := Aside0.mk ((by rw [hg]; exact Nat.ne_of_lt (blk_lt (g := gb797) (o := .cells #[.int .i64 a0_0, .int .i64 a0_1, .int .i64 a0_2, .int .i64 a0_3, .int .i64 a0_4, .int .i64 a0_5, .int .i64 a0_6, .int .i64 a0_7, .int .i64 a0_8, .slice A0_9 l0_9.length c0_9] 66 (0, 0)) (by (with_reducible repeat (first | refine blk_drewN ?_ _ | refine blk_drew ?_ | refine blk_alloc ?_ _)); exact BK797.out)) : gb797 ≠ gb805)); have n6_ := Aside0.mk ((by rw [hg]; exact Nat.ne_of_gt (blk_lt (g := gb797) (o := .cells #[.int .i64 a0_0, .int .i64 a0_1, .int .i64 a0_2, .int .i64 a0_3, .int .i64 a0_4, .int .i64 a0_5, .int .i64 a0_6, .int .i64 a0_7, .int .i64 a0_8, .slice A0_9 l0_9.length c0_9] 66 (0, 0)) (by (with_reducible repeat (first | refine blk_drewN ?_ _ | refine blk_drew ?_ | refine blk_alloc ?_ _)); exact BK797.out)) : gb805 ≠ gb797)); clear BK797; clear HB; have BK797 := n0_; have HB := n1_; have BK805 := n2_; have GW805 := n3_; have GE805 := n4_; have NB797_805 := n5_; have NB805_797 := n6_; clear n0_ n1_ n2_ n3_ n4_ n5_ n6_; clear hb hbox hg; have hnb30 := NB805_797.out; have hnc30 := NB797_805.out; have hcz31_0 : w29.cell? ⟨gb805, 0, none⟩ = some (.int .i64 0) := (blk_cell BK805.out 0).trans rfl; have hcz31_1 : w29.cell? ⟨gb805, 1, none⟩ = some (.int .i64 0) := (blk_cell BK805.out 1).trans rfl; have hcz31_2 : w29.cell? ⟨gb805, 2, none⟩ = some (.int .i64 0) := (blk_cell BK805.out 2).trans rfl; have hfz31_0 := blk_frozen BK805.out 0; have hfz31_1 := blk_frozen BK805.out 1; have hfz31_2 := blk_frozen BK805.out 2) | ((with_reducible refine gate_callee (f := 115) rfl ?_); refine goesL_ (some 69) rfl rfl Try.func115 (by kernel_rfl) rfl #[.agg #[.int .i64 t801, .int .i64 t802, .int .i64 t803], .int .i64 x9_19] rfl (by (try simp only [List.map_toArray, List.map_cons, List.map_nil]); first | done | rfl | (simp only [List.length_drop, List.length_take]; rfl)) ?_; (with_reducible refine (tenorref5_Month.calls kj19 t801 t802 t803 x9_19 t806 t807 true _ A24.out).mono ?_); rintro e w32 ⟨rfl, hb⟩; refine ⟨_, rfl, ?_⟩; have n0_ := Aside0.mk (blk_below (g := gb797) (o := .cells #[.int .i64 a0_0, .int .i64 a0_1, .int .i64 a0_2, .int .i64 a0_3, .int .i64 a0_4, .int .i64 a0_5, .int .i64 a0_6, .int .i64 a0_7, .int .i64 a0_8, .slice A0_9 l0_9.length c0_9] 66 (0, 0)) (by (with_reducible repeat (first | refine blk_drewN ?_ _ | refine blk_drew ?_ | refine blk_alloc ?_ _)); refine blk_far ?_ NB797_805.out _; (with_reducible repeat (first | refine blk_drewN ?_ _ | refine blk_drew ?_ | refine blk_alloc ?_ _)); refine blk_far ?_ NB797_805.out _; (with_reducible repeat (first | refine blk_drewN ?_ _ | refine blk_drew ?_ | refine blk_alloc ?_ _)); refine blk_far ?_ NB797_805.out _; (with_reducible repeat (first | refine blk_drewN ?_ _ | refine blk_drew ?_ | refine blk_alloc ?_ _)); exact BK797.out) hb); have n1_ := Aside0.mk (blk_below (g := gb805) (o := .cells #[.int .i64 t801, .int .i64 t802, .int .i64 t803] 115 (0, 0)) (by (with_reducible repeat (first | refine blk_drewN ?_ _ | refine blk_drew ?_ | refine blk_alloc ?_ _)); refine blk_put (cs := #[.int .i64 t801, .int .i64 t802, .int .i64 0]) ?_ 2 _ rfl; (with_reducible repeat (first | refine blk_drewN ?_ _ | refine blk_drew ?_ | refine blk_alloc ?_ _)); refine blk_put (cs := #[.int .i64 t801, .int .i64 0, .int .i64 0]) ?_ 1 _ rfl; (with_reducible repeat (first | refine blk_drewN ?_ _ | refine blk_drew ?_ | refine blk_alloc ?_ _)); refine blk_put (cs := #[.int .i64 0, .int .i64 0, .int .i64 0]) ?_ 0 _ rfl; (with_reducible repeat (first | refine blk_drewN ?_ _ | refine blk_drew ?_ | refine blk_alloc ?_ _)); exact BK805.out) hb); have n2_ := Aside0.mk (below_step (by repeat (first | (with_reducible first | exact HB.out | apply below_alloc | apply pw_below_drewN | apply below_drew1 | refine below_set ?_ GE797.out | refine below_set ?_ GE805.out) | exact HB.out)) hb); clear BK797; clear BK805; clear HB; have BK797 := n0_; have BK805 := n1_; have HB := n2_; clear n0_ n1_ n2_; (try clear hb); (try clear hb2); (try clear hk); (try clear hi); have hcz33_0 : w32.cell? ⟨gb797, 0, none⟩ = some (.int .i64 a0_0) := (blk_cell BK797.out 0).trans rfl; have hcz33_1 : w32.cell? ⟨gb797, 1, none⟩ = some (.int .i64 a0_1) := (blk_cell BK797.out 1).trans rfl; have hcz33_2 : w32.cell? ⟨gb797, 2, none⟩ = some (.int .i64 a0_2) := (blk_cell BK797.out 2).trans rfl; have hcz33_3 : w32.cell? ⟨gb797, 3, none⟩ = some (.int .i64 a0_3) := (blk_cell BK797.out 3).trans rfl; have hcz33_4 : w32.cell? ⟨gb797, 4, none⟩ = some (.int .i64 a0_4) := (blk_cell BK797.out 4).trans rfl; have hcz33_5 : w32.cell? ⟨gb797, 5, none⟩ = some (.int .i64 a0_5) := (blk_cell BK797.out 5).trans rfl; have hcz33_6 : w32.cell? ⟨gb797, 6, none⟩ = some (.int .i64 a0_6) := (blk_cell BK797.out 6).trans rfl; have hcz33_7 : w32.cell? ⟨gb797, 7, none⟩ = some (.int .i64 a0_7) := (blk_cell BK797.out 7).trans rfl; have hcz33_8 : w32.cell? ⟨gb797, 8, none⟩ = some (.int .i64 a0_8) := (blk_cell BK797.out 8).trans rfl; have hcz33_9 : w32.cell? ⟨gb797, 9, none⟩ = some (.slice A0_9 l0_9.length c0_9) := (blk_cell BK797.out 9).trans rfl; have hfz33_0 := blk_frozen BK797.out 0; have hfz33_1 := blk_frozen BK797.out 1; have hfz33_2 := blk_frozen BK797.out 2; have hfz33_3 := blk_frozen BK797.out 3; have hfz33_4 := blk_frozen BK797.out 4; have hfz33_5 := blk_frozen BK797.out 5; have hfz33_6 := blk_frozen BK797.out 6; have hfz33_7 := blk_frozen BK797.out 7; have hfz33_8 := blk_frozen BK797.out 8; have hfz33_9 := blk_frozen BK797.out 9) | ((with_reducible refine gate_callee (f := 116) rfl ?_); refine goesL_ (some 88) rfl rfl Try.func116 (by kernel_rfl) rfl #[.int .i64 a1, .int .i64 x9_19, .bool false] rfl (by (try simp only [List.map_toArray, List.map_cons, List.map_nil]); first | done | rfl | (simp only [List.length_drop, List.length_take]; rfl)) ?_; (with_reducible refine (tenorref5_Months.calls kj19 a1 x9_19 false t809 t810 _ A27.out).mono ?_); rintro e w34 ⟨rfl, hb⟩; refine ⟨_, rfl, ?_⟩; have n0_ := Aside0.mk (blk_below (g := gb797) (o := .cells #[.int .i64 a0_0, .int .i64 a0_1, .int .i64 a0_2, .int .i64 a0_3, .int .i64 a0_4, .int .i64 a0_5, .int .i64 a0_6, .int .i64 a0_7, .int .i64 a0_8, .slice A0_9 l0_9.length c0_9] 66 (0, 0)) (by (with_reducible repeat (first | refine blk_drewN ?_ _ | refine blk_drew ?_ | refine blk_alloc ?_ _)); exact BK797.out) hb); have n1_ := Aside0.mk (blk_below (g := gb805) (o := .cells #[.int .i64 t801, .int .i64 t802, .int .i64 t803] 115 (0, 0)) (by (with_reducible repeat (first | refine blk_drewN ?_ _ | refine blk_drew ?_ | refine blk_alloc ?_ _)); exact BK805.out) hb); have n2_ := Aside0.mk (below_step (by repeat (first | (with_reducible first | exact HB.out | apply below_alloc | apply pw_below_drewN | apply below_drew1 | refine below_set ?_ GE797.out | refine below_set ?_ GE805.out) | exact HB.out)) hb); clear BK797; clear BK805; clear HB; have BK797 := n0_; have BK805 := n1_; have HB := n2_; clear n0_ n1_ n2_; (try clear hb); (try clear hb2); (try clear hk); (try clear hi)))
         go_ret2
         exact ⟨by first | rfl | (simp [errW_none, errW_some] <;> rfl) | (simp [*, errW_none, errW_some] <;> rfl), by repeat (first | (with_reducible first | exact HB.out | apply below_alloc | apply pw_below_drewN | apply below_drew1 | refine below_set ?_ GE797.out | refine below_set ?_ GE805.out) | exact HB.out)⟩
        ·
         rw [if_neg c26] at H
         have c26b0 : (a0_5 == 0) = false := beq_eq_false_iff_ne.mpr c26
         have c26b1 : (a0_5 != 0) = true := bne_iff_ne.mpr c26
         by_cases c35 : a0_5 = 1
         ·
          rw [if_pos c35] at H
          have c35b0 : (a0_5 == 1) = true := beq_iff_eq.mpr c35
          have c35b1 : (a0_5 != 1) = false := bne_eq_false_iff_eq.mpr c35
          clear c35;replace H := Option.bind_eq_some_iff.mp H
          obtain ⟨⟨t811, t812⟩, A360, H⟩ := H
          replace H : ((tenorref5_Of.f kj19 t806 t807 t811).bind fun bt813 => (some (bt813.1, true))) = some (r1, r2) := H
          have A36 := Aside0.mk A360;clear A360;replace H := Option.bind_eq_some_iff.mp H
          obtain ⟨⟨t813, t814⟩, A370, H⟩ := H
          replace H : (some (t813, true)) = some (r1, r2) := H
          have A37 := Aside0.mk A370;clear A370
          simp only [Option.some.injEq, Prod.mk.injEq] at H
          obtain ⟨rfl, rfl⟩ := H
          go_wp2_with (first | ((with_reducible refine gate_callee (f := 96) rfl ?_); refine goesL_ (some 63) rfl rfl Try.func96 (by kernel_rfl) rfl #[.int .i64 a1] rfl (by (try simp only [List.map_toArray, List.map_cons, List.map_nil]); first | done | rfl | (simp only [List.length_drop, List.length_take]; rfl)) ?_; (with_reducible refine (tenorref5_Civil.calls kj19 a1 t801 t802 t803 t804 _ A23.out).mono ?_); rintro e w38 ⟨rfl, hb⟩; refine ⟨_, rfl, ?_⟩; have n0_ := Aside0.mk (blk_below (g := gb797) (o := .cells #[.int .i64 a0_0, .int .i64 a0_1, .int .i64 a0_2, .int .i64 a0_3, .int .i64 a0_4, .int .i64 a0_5, .int .i64 a0_6, .int .i64 a0_7, .int .i64 a0_8, .slice A0_9 l0_9.length c0_9] 66 (0, 0)) (by (with_reducible repeat (first | refine blk_drewN ?_ _ | refine blk_drew ?_ | refine blk_alloc ?_ _)); exact BK797.out) hb); have n1_ := Aside0.mk (below_step (by repeat (first | (with_reducible first | exact HB.out | apply below_alloc | apply pw_below_drewN | apply below_drew1 | refine below_set ?_ GE797.out) | exact HB.out)) hb); clear BK797; clear HB; have BK797 := n0_; have HB := n1_; clear n0_ n1_; (try clear hb); (try clear hb2); (try clear hk); (try clear hi)) | ((with_reducible refine gate_dst (N := 10) rfl ?_); refine box_event ?hg (N := 10) ?hd (cs := #[.int .i64 0, .int .i64 0, .int .i64 0]) (t := 115) ?hr ?_; (case hd => rfl); (case hg => rfl); (case hr => first | (go_simp; done) | (go_simp; rfl)); intro gb805 hg w39 hbox hb; have n0_ := Aside0.mk (blk_below (g := gb797) (o := .cells #[.int .i64 a0_0, .int .i64 a0_1, .int .i64 a0_2, .int .i64 a0_3, .int .i64 a0_4, .int .i64 a0_5, .int .i64 a0_6, .int .i64 a0_7, .int .i64 a0_8, .slice A0_9 l0_9.length c0_9] 66 (0, 0)) (by (with_reducible repeat (first | refine blk_drewN ?_ _ | refine blk_drew ?_ | refine blk_alloc ?_ _)); exact BK797.out) hb); have n1_ := Aside0.mk (below_step (by repeat (first | (with_reducible first | exact HB.out | apply below_alloc | apply pw_below_drewN | apply below_drew1 | refine below_set ?_ GE797.out) | exact HB.out)) hb); have n2_ := Aside0.mk (hbox); have n3_ := Aside0.mk ((by rw [hg]; exact (below_size (by repeat (first | (with_reducible first | exact HB.out | apply below_alloc | apply pw_below_drewN | apply below_drew1 | refine below_set ?_ GE797.out) | exact HB.out))) : w.heap.size ≤ gb805)); have n4_ := Aside0.mk ((by rw [hg]; exact (below_size (by repeat (first | (with_reducible first | exact HB.out | apply below_alloc | apply pw_below_drewN | apply below_drew1 | refine below_set ?_ GE797.out) | exact HB.out))) : w.heap.size ≤ gb805)); have n5_ := Aside0.mk ((by rw [hg]; exact Nat.ne_of_lt (blk_lt (g := gb797) (o := .cells #[.int .i64 a0_0, .int .i64 a0_1, .int .i64 a0_2, .int .i64 a0_3, .int .i64 a0_4, .int .i64 a0_5, .int .i64 a0_6, .int .i64 a0_7, .int .i64 a0_8, .slice A0_9 l0_9.length c0_9] 66 (0, 0)) (by (with_reducible repeat (first | refine blk_drewN ?_ _ | refine blk_drew ?_ | refine blk_alloc ?_ _)); exact BK797.out)) : gb797 ≠ gb805)); have n6_ := Aside0.mk ((by rw [hg]; exact Nat.ne_of_gt (blk_lt (g := gb797) (o := .cells #[.int .i64 a0_0, .int .i64 a0_1, .int .i64 a0_2, .int .i64 a0_3, .int .i64 a0_4, .int .i64 a0_5, .int .i64 a0_6, .int .i64 a0_7, .int .i64 a0_8, .slice A0_9 l0_9.length c0_9] 66 (0, 0)) (by (with_reducible repeat (first | refine blk_drewN ?_ _ | refine blk_drew ?_ | refine blk_alloc ?_ _)); exact BK797.out)) : gb805 ≠ gb797)); clear BK797; clear HB; have BK797 := n0_; have HB := n1_; have BK805 := n2_; have GW805 := n3_; have GE805 := n4_; have NB797_805 := n5_; have NB805_797 := n6_; clear n0_ n1_ n2_ n3_ n4_ n5_ n6_; clear hb hbox hg; have hnb40 := NB805_797.out; have hnc40 := NB797_805.out; have hcz41_0 : w39.cell? ⟨gb805, 0, none⟩ = some (.int .i64 0) := (blk_cell BK805.out 0).trans rfl; have hcz41_1 : w39.cell? ⟨gb805, 1, none⟩ = some (.int .i64 0) := (blk_cell BK805.out 1).trans rfl; have hcz41_2 : w39.cell? ⟨gb805, 2, none⟩ = some (.int .i64 0) := (blk_cell BK805.out 2).trans rfl; have hfz41_0 := blk_frozen BK805.out 0; have hfz41_1 := blk_frozen BK805.out 1; have hfz41_2 := blk_frozen BK805.out 2) | ((with_reducible refine gate_callee (f := 115) rfl ?_); refine goesL_ (some 69) rfl rfl Try.func115 (by kernel_rfl) rfl #[.agg #[.int .i64 t801, .int .i64 t802, .int .i64 t803], .int .i64 x9_19] rfl (by (try simp only [List.map_toArray, List.map_cons, List.map_nil]); first | done | rfl | (simp only [List.length_drop, List.length_take]; rfl)) ?_; (with_reducible refine (tenorref5_Month.calls kj19 t801 t802 t803 x9_19 t806 t807 true _ A24.out).mono ?_); rintro e w42 ⟨rfl, hb⟩; refine ⟨_, rfl, ?_⟩; have n0_ := Aside0.mk (blk_below (g := gb797) (o := .cells #[.int .i64 a0_0, .int .i64 a0_1, .int .i64 a0_2, .int .i64 a0_3, .int .i64 a0_4, .int .i64 a0_5, .int .i64 a0_6, .int .i64 a0_7, .int .i64 a0_8, .slice A0_9 l0_9.length c0_9] 66 (0, 0)) (by (with_reducible repeat (first | refine blk_drewN ?_ _ | refine blk_drew ?_ | refine blk_alloc ?_ _)); refine blk_far ?_ NB797_805.out _; (with_reducible repeat (first | refine blk_drewN ?_ _ | refine blk_drew ?_ | refine blk_alloc ?_ _)); refine blk_far ?_ NB797_805.out _; (with_reducible repeat (first | refine blk_drewN ?_ _ | refine blk_drew ?_ | refine blk_alloc ?_ _)); refine blk_far ?_ NB797_805.out _; (with_reducible repeat (first | refine blk_drewN ?_ _ | refine blk_drew ?_ | refine blk_alloc ?_ _)); exact BK797.out) hb); have n1_ := Aside0.mk (blk_below (g := gb805) (o := .cells #[.int .i64 t801, .int .i64 t802, .int .i64 t803] 115 (0, 0)) (by (with_reducible repeat (first | refine blk_drewN ?_ _ | refine blk_drew ?_ | refine blk_alloc ?_ _)); refine blk_put (cs := #[.int .i64 t801, .int .i64 t802, .int .i64 0]) ?_ 2 _ rfl; (with_reducible repeat (first | refine blk_drewN ?_ _ | refine blk_drew ?_ | refine blk_alloc ?_ _)); refine blk_put (cs := #[.int .i64 t801, .int .i64 0, .int .i64 0]) ?_ 1 _ rfl; (with_reducible repeat (first | refine blk_drewN ?_ _ | refine blk_drew ?_ | refine blk_alloc ?_ _)); refine blk_put (cs := #[.int .i64 0, .int .i64 0, .int .i64 0]) ?_ 0 _ rfl; (with_reducible repeat (first | refine blk_drewN ?_ _ | refine blk_drew ?_ | refine blk_alloc ?_ _)); exact BK805.out) hb); have n2_ := Aside0.mk (below_step (by repeat (first | (with_reducible first | exact HB.out | apply below_alloc | apply pw_below_drewN | apply below_drew1 | refine below_set ?_ GE797.out | refine below_set ?_ GE805.out) | exact HB.out)) hb); clear BK797; clear BK805; clear HB; have BK797 := n0_; have BK805 := n1_; have HB := n2_; clear n0_ n1_ n2_; (try clear hb); (try clear hb2); (try clear hk); (try clear hi); have hcz43_0 : w42.cell? ⟨gb797, 0, none⟩ = some (.int .i64 a0_0) := (blk_cell BK797.out 0).trans rfl; have hcz43_1 : w42.cell? ⟨gb797, 1, none⟩ = some (.int .i64 a0_1) := (blk_cell BK797.out 1).trans rfl; have hcz43_2 : w42.cell? ⟨gb797, 2, none⟩ = some (.int .i64 a0_2) := (blk_cell BK797.out 2).trans rfl; have hcz43_3 : w42.cell? ⟨gb797, 3, none⟩ = some (.int .i64 a0_3) := (blk_cell BK797.out 3).trans rfl; have hcz43_4 : w42.cell? ⟨gb797, 4, none⟩ = some (.int .i64 a0_4) := (blk_cell BK797.out 4).trans rfl; have hcz43_5 : w42.cell? ⟨gb797, 5, none⟩ = some (.int .i64 a0_5) := (blk_cell BK797.out 5).trans rfl; have hcz43_6 : w42.cell? ⟨gb797, 6, none⟩ = some (.int .i64 a0_6) := (blk_cell BK797.out 6).trans rfl; have hcz43_7 : w42.cell? ⟨gb797, 7, none⟩ = some (.int .i64 a0_7) := (blk_cell BK797.out 7).trans rfl; have hcz43_8 : w42.cell? ⟨gb797, 8, none⟩ = some (.int .i64 a0_8) := (blk_cell BK797.out 8).trans rfl; have hcz43_9 : w42.cell? ⟨gb797, 9, none⟩ = some (.slice A0_9 l0_9.length c0_9) := (blk_cell BK797.out 9).trans rfl; have hfz43_0 := blk_frozen BK797.out 0; have hfz43_1 := blk_frozen BK797.out 1; have hfz43_2 := blk_frozen BK797.out 2; have hfz43_3 := blk_frozen BK797.out 3; have hfz43_4 := blk_frozen BK797.out 4; have hfz43_5 := blk_frozen BK797.out 5; have hfz43_6 := blk_frozen BK797.out 6; have hfz43_7 := blk_frozen BK797.out 7; have hfz43_8 := blk_frozen BK797.out 8; have hfz43_9 := blk_frozen BK797.out 9) | ((with_reducible refine gate_callee (f := 117) rfl ?_); refine goesL_ (some 96) rfl rfl Try.func117 (by kernel_rfl) rfl #[.int .i64 t806, .int .i64 t807] rfl (by (try simp only [List.map_toArray, List.map_cons, List.map_nil]); first | done | rfl | (simp only [List.length_drop, List.length_take]; rfl)) ?_; (with_reducible refine (tenorref5_Length.calls kj19 t806 t807 t811 t812 _ A36.out).mono ?_); rintro e w' ⟨rfl, ⟨nd, rfl⟩⟩; refine ⟨_, rfl, ?_⟩) | ((with_reducible refine gate_callee (f := 97) rfl ?_); refine goesL_ (some 103) rfl rfl Try.func97 (by kernel_rfl) rfl #[.int .i64 t806, .int .i64 t807, .int .i64 t811] rfl (by (try simp only [List.map_toArray, List.map_cons, List.map_nil]); first | done | rfl | (simp only [List.length_drop, List.length_take]; rfl)) ?_; (with_reducible refine (tenorref5_Of.calls kj19 t806 t807 t811 t813 t814 _ A37.out).mono ?_); rintro e w' ⟨rfl, ⟨nd, rfl⟩⟩; refine ⟨_, rfl, ?_⟩))
          go_ret2
          exact ⟨by first | rfl | (simp [errW_none, errW_some] <;> rfl) | (simp [*, errW_none, errW_some] <;> rfl), by repeat (first | (with_reducible first | exact HB.out | apply below_alloc | apply pw_below_drewN | apply below_drew1 | refine below_set ?_ GE797.out | refine below_set ?_ GE805.out) | exact HB.out)⟩
         ·
          rw [if_neg c35] at H
          have c35b0 : (a0_5 == 1) = false := beq_eq_false_iff_ne.mpr c35
          have c35b1 : (a0_5 != 1) = true := bne_iff_ne.mpr c35
          replace H := Option.bind_eq_some_iff.mp H
          obtain ⟨⟨t815, t816⟩, A440, H⟩ := H
          replace H : (some (t815, true)) = some (r1, r2) := H
          have A44 := Aside0.mk A440;clear A440
          simp only [Option.some.injEq, Prod.mk.injEq] at H
          obtain ⟨rfl, rfl⟩ := H
          go_wp2_with (first | ((with_reducible refine gate_callee (f := 96) rfl ?_); refine goesL_ (some 63) rfl rfl Try.func96 (by kernel_rfl) rfl #[.int .i64 a1] rfl (by (try simp only [List.map_toArray, List.map_cons, List.map_nil]); first | done | rfl | (simp only [List.length_drop, List.length_take]; rfl)) ?_; (with_reducible refine (tenorref5_Civil.calls kj19 a1 t801 t802 t803 t804 _ A23.out).mono ?_); rintro e w45 ⟨rfl, hb⟩; refine ⟨_, rfl, ?_⟩; have n0_ := Aside0.mk (blk_below (g := gb797) (o := .cells #[.int .i64 a0_0, .int .i64 a0_1, .int .i64 a0_2, .int .i64 a0_3, .int .i64 a0_4, .int .i64 a0_5, .int .i64 a0_6, .int .i64 a0_7, .int .i64 a0_8, .slice A0_9 l0_9.length c0_9] 66 (0, 0)) (by (with_reducible repeat (first | refine blk_drewN ?_ _ | refine blk_drew ?_ | refine blk_alloc ?_ _)); exact BK797.out) hb); have n1_ := Aside0.mk (below_step (by repeat (first | (with_reducible first | exact HB.out | apply below_alloc | apply pw_below_drewN | apply below_drew1 | refine below_set ?_ GE797.out) | exact HB.out)) hb); clear BK797; clear HB; have BK797 := n0_; have HB := n1_; clear n0_ n1_; (try clear hb); (try clear hb2); (try clear hk); (try clear hi)) | ((with_reducible refine gate_dst (N := 10) rfl ?_); refine box_event ?hg (N := 10) ?hd (cs := #[.int .i64 0, .int .i64 0, .int .i64 0]) (t := 115) ?hr ?_; (case hd => rfl); (case hg => rfl); (case hr => first | (go_simp; done) | (go_simp; rfl)); intro gb805 hg w46 hbox hb; have n0_ := Aside0.mk (blk_below (g := gb797) (o := .cells #[.int .i64 a0_0, .int .i64 a0_1, .int .i64 a0_2, .int .i64 a0_3, .int .i64 a0_4, .int .i64 a0_5, .int .i64 a0_6, .int .i64 a0_7, .int .i64 a0_8, .slice A0_9 l0_9.length c0_9] 66 (0, 0)) (by (with_reducible repeat (first | refine blk_drewN ?_ _ | refine blk_drew ?_ | refine blk_alloc ?_ _)); exact BK797.out) hb); have n1_ := Aside0.mk (below_step (by repeat (first | (with_reducible first | exact HB.out | apply below_alloc | apply pw_below_drewN | apply below_drew1 | refine below_set ?_ GE797.out) | exact HB.out)) hb); have n2_ := Aside0.mk (hbox); have n3_ := Aside0.mk ((by rw [hg]; exact (below_size (by repeat (first | (with_reducible first | exact HB.out | apply below_alloc | apply pw_below_drewN | apply below_drew1 | refine below_set ?_ GE797.out) | exact HB.out))) : w.heap.size ≤ gb805)); have n4_ := Aside0.mk ((by rw [hg]; exact (below_size (by repeat (first | (with_reducible first | exact HB.out | apply below_alloc | apply pw_below_drewN | apply below_drew1 | refine below_set ?_ GE797.out) | exact HB.out))) : w.heap.size ≤ gb805)); have n5_ := Aside0.mk ((by rw [hg]; exact Nat.ne_of_lt (blk_lt (g := gb797) (o := .cells #[.int .i64 a0_0, .int .i64 a0_1, .int .i64 a0_2, .int .i64 a0_3, .int .i64 a0_4, .int .i64 a0_5, .int .i64 a0_6, .int .i64 a0_7, .int .i64 a0_8, .slice A0_9 l0_9.length c0_9] 66 (0, 0)) (by (with_reducible repeat (first | refine blk_drewN ?_ _ | refine blk_drew ?_ | refine blk_alloc ?_ _)); exact BK797.out)) : gb797 ≠ gb805)); have n6_ := Aside0.mk ((by rw [hg]; exact Nat.ne_of_gt (blk_lt (g := gb797) (o := .cells #[.int .i64 a0_0, .int .i64 a0_1, .int .i64 a0_2, .int .i64 a0_3, .int .i64 a0_4, .int .i64 a0_5, .int .i64 a0_6, .int .i64 a0_7, .int .i64 a0_8, .slice A0_9 l0_9.length c0_9] 66 (0, 0)) (by (with_reducible repeat (first | refine blk_drewN ?_ _ | refine blk_drew ?_ | refine blk_alloc ?_ _)); exact BK797.out)) : gb805 ≠ gb797)); clear BK797; clear HB; have BK797 := n0_; have HB := n1_; have BK805 := n2_; have GW805 := n3_; have GE805 := n4_; have NB797_805 := n5_; have NB805_797 := n6_; clear n0_ n1_ n2_ n3_ n4_ n5_ n6_; clear hb hbox hg; have hnb47 := NB805_797.out; have hnc47 := NB797_805.out; have hcz48_0 : w46.cell? ⟨gb805, 0, none⟩ = some (.int .i64 0) := (blk_cell BK805.out 0).trans rfl; have hcz48_1 : w46.cell? ⟨gb805, 1, none⟩ = some (.int .i64 0) := (blk_cell BK805.out 1).trans rfl; have hcz48_2 : w46.cell? ⟨gb805, 2, none⟩ = some (.int .i64 0) := (blk_cell BK805.out 2).trans rfl; have hfz48_0 := blk_frozen BK805.out 0; have hfz48_1 := blk_frozen BK805.out 1; have hfz48_2 := blk_frozen BK805.out 2) | ((with_reducible refine gate_callee (f := 115) rfl ?_); refine goesL_ (some 69) rfl rfl Try.func115 (by kernel_rfl) rfl #[.agg #[.int .i64 t801, .int .i64 t802, .int .i64 t803], .int .i64 x9_19] rfl (by (try simp only [List.map_toArray, List.map_cons, List.map_nil]); first | done | rfl | (simp only [List.length_drop, List.length_take]; rfl)) ?_; (with_reducible refine (tenorref5_Month.calls kj19 t801 t802 t803 x9_19 t806 t807 true _ A24.out).mono ?_); rintro e w49 ⟨rfl, hb⟩; refine ⟨_, rfl, ?_⟩; have n0_ := Aside0.mk (blk_below (g := gb797) (o := .cells #[.int .i64 a0_0, .int .i64 a0_1, .int .i64 a0_2, .int .i64 a0_3, .int .i64 a0_4, .int .i64 a0_5, .int .i64 a0_6, .int .i64 a0_7, .int .i64 a0_8, .slice A0_9 l0_9.length c0_9] 66 (0, 0)) (by (with_reducible repeat (first | refine blk_drewN ?_ _ | refine blk_drew ?_ | refine blk_alloc ?_ _)); refine blk_far ?_ NB797_805.out _; (with_reducible repeat (first | refine blk_drewN ?_ _ | refine blk_drew ?_ | refine blk_alloc ?_ _)); refine blk_far ?_ NB797_805.out _; (with_reducible repeat (first | refine blk_drewN ?_ _ | refine blk_drew ?_ | refine blk_alloc ?_ _)); refine blk_far ?_ NB797_805.out _; (with_reducible repeat (first | refine blk_drewN ?_ _ | refine blk_drew ?_ | refine blk_alloc ?_ _)); exact BK797.out) hb); have n1_ := Aside0.mk (blk_below (g := gb805) (o := .cells #[.int .i64 t801, .int .i64 t802, .int .i64 t803] 115 (0, 0)) (by (with_reducible repeat (first | refine blk_drewN ?_ _ | refine blk_drew ?_ | refine blk_alloc ?_ _)); refine blk_put (cs := #[.int .i64 t801, .int .i64 t802, .int .i64 0]) ?_ 2 _ rfl; (with_reducible repeat (first | refine blk_drewN ?_ _ | refine blk_drew ?_ | refine blk_alloc ?_ _)); refine blk_put (cs := #[.int .i64 t801, .int .i64 0, .int .i64 0]) ?_ 1 _ rfl; (with_reducible repeat (first | refine blk_drewN ?_ _ | refine blk_drew ?_ | refine blk_alloc ?_ _)); refine blk_put (cs := #[.int .i64 0, .int .i64 0, .int .i64 0]) ?_ 0 _ rfl; (with_reducible repeat (first | refine blk_drewN ?_ _ | refine blk_drew ?_ | refine blk_alloc ?_ _)); exact BK805.out) hb); have n2_ := Aside0.mk (below_step (by repeat (first | (with_reducible first | exact HB.out | apply below_alloc | apply pw_below_drewN | apply below_drew1 | refine below_set ?_ GE797.out | refine below_set ?_ GE805.out) | exact HB.out)) hb); clear BK797; clear BK805; clear HB; have BK797 := n0_; have BK805 := n1_; have HB := n2_; clear n0_ n1_ n2_; (try clear hb); (try clear hb2); (try clear hk); (try clear hi); have hcz50_0 : w49.cell? ⟨gb797, 0, none⟩ = some (.int .i64 a0_0) := (blk_cell BK797.out 0).trans rfl; have hcz50_1 : w49.cell? ⟨gb797, 1, none⟩ = some (.int .i64 a0_1) := (blk_cell BK797.out 1).trans rfl; have hcz50_2 : w49.cell? ⟨gb797, 2, none⟩ = some (.int .i64 a0_2) := (blk_cell BK797.out 2).trans rfl; have hcz50_3 : w49.cell? ⟨gb797, 3, none⟩ = some (.int .i64 a0_3) := (blk_cell BK797.out 3).trans rfl; have hcz50_4 : w49.cell? ⟨gb797, 4, none⟩ = some (.int .i64 a0_4) := (blk_cell BK797.out 4).trans rfl; have hcz50_5 : w49.cell? ⟨gb797, 5, none⟩ = some (.int .i64 a0_5) := (blk_cell BK797.out 5).trans rfl; have hcz50_6 : w49.cell? ⟨gb797, 6, none⟩ = some (.int .i64 a0_6) := (blk_cell BK797.out 6).trans rfl; have hcz50_7 : w49.cell? ⟨gb797, 7, none⟩ = some (.int .i64 a0_7) := (blk_cell BK797.out 7).trans rfl; have hcz50_8 : w49.cell? ⟨gb797, 8, none⟩ = some (.int .i64 a0_8) := (blk_cell BK797.out 8).trans rfl; have hcz50_9 : w49.cell? ⟨gb797, 9, none⟩ = some (.slice A0_9 l0_9.length c0_9) := (blk_cell BK797.out 9).trans rfl; have hfz50_0 := blk_frozen BK797.out 0; have hfz50_1 := blk_frozen BK797.out 1; have hfz50_2 := blk_frozen BK797.out 2; have hfz50_3 := blk_frozen BK797.out 3; have hfz50_4 := blk_frozen BK797.out 4; have hfz50_5 := blk_frozen BK797.out 5; have hfz50_6 := blk_frozen BK797.out 6; have hfz50_7 := blk_frozen BK797.out 7; have hfz50_8 := blk_frozen BK797.out 8; have hfz50_9 := blk_frozen BK797.out 9) | ((with_reducible refine gate_callee (f := 118) rfl ?_); refine goesL_ (some 80) rfl rfl Try.func118 (by kernel_rfl) rfl #[.int .i64 t806, .int .i64 t807] rfl (by (try simp only [List.map_toArray, List.map_cons, List.map_nil]); first | done | rfl | (simp only [List.length_drop, List.length_take]; rfl)) ?_; (with_reducible refine (tenorref5_Third.calls kj19 t806 t807 t815 t816 _ A44.out).mono ?_); rintro e w' ⟨rfl, ⟨nd, rfl⟩⟩; refine ⟨_, rfl, ?_⟩))
          go_ret2
          exact ⟨by first | rfl | (simp [errW_none, errW_some] <;> rfl) | (simp [*, errW_none, errW_some] <;> rfl), by repeat (first | (with_reducible first | exact HB.out | apply below_alloc | apply pw_below_drewN | apply below_drew1 | refine below_set ?_ GE797.out | refine below_set ?_ GE805.out) | exact HB.out)⟩
       ·
        replace c25 := Bool.eq_false_iff.mpr c25;subst c25
        have H1 : (some (0, false)) = some (r1, r2) := by rw [if_neg (show ¬ (false = true) by decide)] at H; exact H
        clear H;have H := H1;clear H1
        simp only [Option.some.injEq, Prod.mk.injEq] at H
        obtain ⟨rfl, rfl⟩ := H
        go_wp2_with (first | ((with_reducible refine gate_callee (f := 96) rfl ?_); refine goesL_ (some 63) rfl rfl Try.func96 (by kernel_rfl) rfl #[.int .i64 a1] rfl (by (try simp only [List.map_toArray, List.map_cons, List.map_nil]); first | done | rfl | (simp only [List.length_drop, List.length_take]; rfl)) ?_; (with_reducible refine (tenorref5_Civil.calls kj19 a1 t801 t802 t803 t804 _ A23.out).mono ?_); rintro e w51 ⟨rfl, hb⟩; refine ⟨_, rfl, ?_⟩; have n0_ := Aside0.mk (blk_below (g := gb797) (o := .cells #[.int .i64 a0_0, .int .i64 a0_1, .int .i64 a0_2, .int .i64 a0_3, .int .i64 a0_4, .int .i64 a0_5, .int .i64 a0_6, .int .i64 a0_7, .int .i64 a0_8, .slice A0_9 l0_9.length c0_9] 66 (0, 0)) (by (with_reducible repeat (first | refine blk_drewN ?_ _ | refine blk_drew ?_ | refine blk_alloc ?_ _)); exact BK797.out) hb); have n1_ := Aside0.mk (below_step (by repeat (first | (with_reducible first | exact HB.out | apply below_alloc | apply pw_below_drewN | apply below_drew1 | refine below_set ?_ GE797.out) | exact HB.out)) hb); clear BK797; clear HB; have BK797 := n0_; have HB := n1_; clear n0_ n1_; (try clear hb); (try clear hb2); (try clear hk); (try clear hi)) | ((with_reducible refine gate_dst (N := 10) rfl ?_); refine box_event ?hg (N := 10) ?hd (cs := #[.int .i64 0, .int .i64 0, .int .i64 0]) (t := 115) ?hr ?_; (case hd => rfl); (case hg => rfl); (case hr => first | (go_simp; done) | (go_simp; rfl)); intro gb805 hg w52 hbox hb; have n0_ := Aside0.mk (blk_below (g := gb797) (o := .cells #[.int .i64 a0_0, .int .i64 a0_1, .int .i64 a0_2, .int .i64 a0_3, .int .i64 a0_4, .int .i64 a0_5, .int .i64 a0_6, .int .i64 a0_7, .int .i64 a0_8, .slice A0_9 l0_9.length c0_9] 66 (0, 0)) (by (with_reducible repeat (first | refine blk_drewN ?_ _ | refine blk_drew ?_ | refine blk_alloc ?_ _)); exact BK797.out) hb); have n1_ := Aside0.mk (below_step (by repeat (first | (with_reducible first | exact HB.out | apply below_alloc | apply pw_below_drewN | apply below_drew1 | refine below_set ?_ GE797.out) | exact HB.out)) hb); have n2_ := Aside0.mk (hbox); have n3_ := Aside0.mk ((by rw [hg]; exact (below_size (by repeat (first | (with_reducible first | exact HB.out | apply below_alloc | apply pw_below_drewN | apply below_drew1 | refine below_set ?_ GE797.out) | exact HB.out))) : w.heap.size ≤ gb805)); have n4_ := Aside0.mk ((by rw [hg]; exact (below_size (by repeat (first | (with_reducible first | exact HB.out | apply below_alloc | apply pw_below_drewN | apply below_drew1 | refine below_set ?_ GE797.out) | exact HB.out))) : w.heap.size ≤ gb805)); have n5_ := Aside0.mk ((by rw [hg]; exact Nat.ne_of_lt (blk_lt (g := gb797) (o := .cells #[.int .i64 a0_0, .int .i64 a0_1, .int .i64 a0_2, .int .i64 a0_3, .int .i64 a0_4, .int .i64 a0_5, .int .i64 a0_6, .int .i64 a0_7, .int .i64 a0_8, .slice A0_9 l0_9.length c0_9] 66 (0, 0)) (by (with_reducible repeat (first | refine blk_drewN ?_ _ | refine blk_drew ?_ | refine blk_alloc ?_ _)); exact BK797.out)) : gb797 ≠ gb805)); have n6_ := Aside0.mk ((by rw [hg]; exact Nat.ne_of_gt (blk_lt (g := gb797) (o := .cells #[.int .i64 a0_0, .int .i64 a0_1, .int .i64 a0_2, .int .i64 a0_3, .int .i64 a0_4, .int .i64 a0_5, .int .i64 a0_6, .int .i64 a0_7, .int .i64 a0_8, .slice A0_9 l0_9.length c0_9] 66 (0, 0)) (by (with_reducible repeat (first | refine blk_drewN ?_ _ | refine blk_drew ?_ | refine blk_alloc ?_ _)); exact BK797.out)) : gb805 ≠ gb797)); clear BK797; clear HB; have BK797 := n0_; have HB := n1_; have BK805 := n2_; have GW805 := n3_; have GE805 := n4_; have NB797_805 := n5_; have NB805_797 := n6_; clear n0_ n1_ n2_ n3_ n4_ n5_ n6_; clear hb hbox hg; have hnb53 := NB805_797.out; have hnc53 := NB797_805.out; have hcz54_0 : w52.cell? ⟨gb805, 0, none⟩ = some (.int .i64 0) := (blk_cell BK805.out 0).trans rfl; have hcz54_1 : w52.cell? ⟨gb805, 1, none⟩ = some (.int .i64 0) := (blk_cell BK805.out 1).trans rfl; have hcz54_2 : w52.cell? ⟨gb805, 2, none⟩ = some (.int .i64 0) := (blk_cell BK805.out 2).trans rfl; have hfz54_0 := blk_frozen BK805.out 0; have hfz54_1 := blk_frozen BK805.out 1; have hfz54_2 := blk_frozen BK805.out 2) | ((with_reducible refine gate_callee (f := 115) rfl ?_); refine goesL_ (some 69) rfl rfl Try.func115 (by kernel_rfl) rfl #[.agg #[.int .i64 t801, .int .i64 t802, .int .i64 t803], .int .i64 x9_19] rfl (by (try simp only [List.map_toArray, List.map_cons, List.map_nil]); first | done | rfl | (simp only [List.length_drop, List.length_take]; rfl)) ?_; (with_reducible refine (tenorref5_Month.calls kj19 t801 t802 t803 x9_19 t806 t807 false _ A24.out).mono ?_); rintro e w55 ⟨rfl, hb⟩; refine ⟨_, rfl, ?_⟩; have n0_ := Aside0.mk (blk_below (g := gb797) (o := .cells #[.int .i64 a0_0, .int .i64 a0_1, .int .i64 a0_2, .int .i64 a0_3, .int .i64 a0_4, .int .i64 a0_5, .int .i64 a0_6, .int .i64 a0_7, .int .i64 a0_8, .slice A0_9 l0_9.length c0_9] 66 (0, 0)) (by (with_reducible repeat (first | refine blk_drewN ?_ _ | refine blk_drew ?_ | refine blk_alloc ?_ _)); refine blk_far ?_ NB797_805.out _; (with_reducible repeat (first | refine blk_drewN ?_ _ | refine blk_drew ?_ | refine blk_alloc ?_ _)); refine blk_far ?_ NB797_805.out _; (with_reducible repeat (first | refine blk_drewN ?_ _ | refine blk_drew ?_ | refine blk_alloc ?_ _)); refine blk_far ?_ NB797_805.out _; (with_reducible repeat (first | refine blk_drewN ?_ _ | refine blk_drew ?_ | refine blk_alloc ?_ _)); exact BK797.out) hb); have n1_ := Aside0.mk (blk_below (g := gb805) (o := .cells #[.int .i64 t801, .int .i64 t802, .int .i64 t803] 115 (0, 0)) (by (with_reducible repeat (first | refine blk_drewN ?_ _ | refine blk_drew ?_ | refine blk_alloc ?_ _)); refine blk_put (cs := #[.int .i64 t801, .int .i64 t802, .int .i64 0]) ?_ 2 _ rfl; (with_reducible repeat (first | refine blk_drewN ?_ _ | refine blk_drew ?_ | refine blk_alloc ?_ _)); refine blk_put (cs := #[.int .i64 t801, .int .i64 0, .int .i64 0]) ?_ 1 _ rfl; (with_reducible repeat (first | refine blk_drewN ?_ _ | refine blk_drew ?_ | refine blk_alloc ?_ _)); refine blk_put (cs := #[.int .i64 0, .int .i64 0, .int .i64 0]) ?_ 0 _ rfl; (with_reducible repeat (first | refine blk_drewN ?_ _ | refine blk_drew ?_ | refine blk_alloc ?_ _)); exact BK805.out) hb); have n2_ := Aside0.mk (below_step (by repeat (first | (with_reducible first | exact HB.out | apply below_alloc | apply pw_below_drewN | apply below_drew1 | refine below_set ?_ GE797.out | refine below_set ?_ GE805.out) | exact HB.out)) hb); clear BK797; clear BK805; clear HB; have BK797 := n0_; have BK805 := n1_; have HB := n2_; clear n0_ n1_ n2_; (try clear hb); (try clear hb2); (try clear hk); (try clear hi)))
        go_ret2
        exact ⟨by first | rfl | (simp [errW_none, errW_some] <;> rfl) | (simp [*, errW_none, errW_some] <;> rfl), by repeat (first | (with_reducible first | exact HB.out | apply below_alloc | apply pw_below_drewN | apply below_drew1 | refine below_set ?_ GE797.out | refine below_set ?_ GE805.out) | exact HB.out)⟩
end Go.Proofs.Ytoncignjcgjhhaa.Q
