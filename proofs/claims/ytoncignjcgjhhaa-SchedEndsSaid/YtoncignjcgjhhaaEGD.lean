/- Contracts and facts of functions of the program (calendar, dates and their documents), joined in one text by a program of this session. No condition but what each theorem states. -/
import Derived.Test.YtoncignjcgjhhaaEGA
import Derived.Test.YtoncignjcgjhhaaEGC
set_option linter.unusedVariables false
set_option linter.unusedSimpArgs false
namespace Go.Proofs.Ytoncignjcgjhhaa.Q
open Go.RowKit Go.Proofs.YtoncignjcgjhhaaW.PrintWords Go.Proofs.YtoncignjcgjhhaaW.PrintLast Go.Proofs.YtoncignjcgjhhaaW.PrintMore
attribute [local go_sem] max2_int min2_int max_two min_two max_three min_three max_four min_four   -- for this text's walks alone
def sched_within.f (a0 : Int) (a1 : Int) (a2 : Int) : Option (Bool) := if a0 ≥ a1 then (some (decide (a0 ≤ a2))) else (some false)
set_option maxHeartbeats 8000000 in
set_option maxRecDepth 100000 in
theorem sched_within.calls (a0 : Int) (a1 : Int) (a2 : Int) (r : Bool) (w : World) (h : sched_within.f a0 a1 a2 = some r) :
  Calls Try.prog 91 #[.int .i64 a0, .int .i64 a1, .int .i64 a2] w fun e w' => e = .returned (.bool r) ∧ Drawn0 w w' := by
 have H : (if a0 ≥ a1 then (some (decide (a0 ≤ a2))) else (some false)) = some r := h
 clear h
 by_cases c4 : a0 ≥ a1
 ·
  rw [if_pos c4] at H
  have c4b0 : decide (a1 ≤ a0) = true := decide_eq_true c4
  clear c4
  obtain rfl := Option.some.inj H
  go_enter Try.func91, Try.ntmps91
  go_wp2
  go_ret
  exact ⟨by first | rfl | (simp; done) | (simp [*]; done), by repeat (first | exact Drawn0.refl _ | apply Drawn0.step)⟩
 ·
  rw [if_neg c4] at H
  have c4b0 : decide (a1 ≤ a0) = false := decide_eq_false c4
  clear c4
  obtain rfl := Option.some.inj H
  go_enter Try.func91, Try.ntmps91
  go_wp2
  go_ret
  exact ⟨by first | rfl | (simp; done) | (simp [*]; done), by repeat (first | exact Drawn0.refl _ | apply Drawn0.step)⟩
end Go.Proofs.Ytoncignjcgjhhaa.Q
namespace Go.Proofs.Ytoncignjcgjhhaa.Q
open Go.RowKit Go.Proofs.YtoncignjcgjhhaaW.PrintWords Go.Proofs.YtoncignjcgjhhaaW.PrintLast Go.Proofs.YtoncignjcgjhhaaW.PrintMore
attribute [local go_sem] max2_int min2_int max_two min_two max_three min_three max_four min_four   -- for this text's walks alone
mutual
def sched_Check.j0 : Nat → Bool → Int → Int → Int → Int → Int → Int → Int → Int → Int → List (S63) → Option (Int)
  | 0, _, _, _, _, _, _, _, _, _, _, _ => none
  | k + 1, x5, x710000, x710001, x710002, x710003, x710004, x710005, x710006, x710007, x710008, x710009 => if x5 = true then (some 51) else (if x710000 ≥ x710001 then (some 80) else ((sched_within.f x710002 1 1200).bind fun t712 => (if t712 = true then ((sched_within.f x710003 1 4).bind fun t713 => (if t713 = true then ((sched_within.f x710004 1 4).bind fun t714 => (if t714 = true then ((sched_within.f x710005 0 2).bind fun t715 => (if t715 = true then (if x710005 = 0 then (sched_Check.j1 k false x710000 x710001 x710002 x710003 x710004 x710005 x710006 x710007 x710008 x710009) else (sched_Check.j1 k (decide (x710003 ≤ 2)) x710000 x710001 x710002 x710003 x710004 x710005 x710006 x710007 x710008 x710009)) else (some 80))) else (some 80))) else (some 80))) else (some 80))))
def sched_Check.j1 : Nat → Bool → Int → Int → Int → Int → Int → Int → Int → Int → Int → List (S63) → Option (Int)
  | 0, _, _, _, _, _, _, _, _, _, _, _ => none
  | k + 1, x16, x710000, x710001, x710002, x710003, x710004, x710005, x710006, x710007, x710008, x710009 => if x16 = true then (some 80) else ((sched_within.f x710006 0 4).bind fun t716 => (if t716 = true then ((sched_within.f x710007 0 30).bind fun t717 => (if t717 = true then ((cal_Check.f x710008 x710009).bind fun bt718 => (some bt718.1)) else (some 80))) else (some 80)))
end
def sched_Check.f (k : Nat) (a0_0 : Int) (a0_1 : Int) (a0_2 : Int) (a0_3 : Int) (a0_4 : Int) (a0_5 : Int) (a0_6 : Int) (a0_7 : Int) (a0_8 : Int) (l0_9 : List (S63)) : Option (Int) := (sched_is.f a0_0).bind fun t710 => (if t710 = true then ((sched_is.f a0_1).bind fun t711 => (sched_Check.j0 k (!t711) a0_0 a0_1 a0_2 a0_3 a0_4 a0_5 a0_6 a0_7 a0_8 l0_9)) else (sched_Check.j0 k true a0_0 a0_1 a0_2 a0_3 a0_4 a0_5 a0_6 a0_7 a0_8 l0_9))
theorem sched_Check.mono_l : ∀ k, (∀ y0 y1 y2 y3 y4 y5 y6 y7 y8 y9 y10, LeO (sched_Check.j0 k y0 y1 y2 y3 y4 y5 y6 y7 y8 y9 y10) (sched_Check.j0 (k + 1) y0 y1 y2 y3 y4 y5 y6 y7 y8 y9 y10)) ∧ (∀ y0 y1 y2 y3 y4 y5 y6 y7 y8 y9 y10, LeO (sched_Check.j1 k y0 y1 y2 y3 y4 y5 y6 y7 y8 y9 y10) (sched_Check.j1 (k + 1) y0 y1 y2 y3 y4 y5 y6 y7 y8 y9 y10))
 | 0 => ⟨fun _ _ _ _ _ _ _ _ _ _ _ r h => by simp [sched_Check.j0] at h, fun _ _ _ _ _ _ _ _ _ _ _ r h => by simp [sched_Check.j1] at h⟩
 | k + 1 => by
  obtain ⟨ih0, ih1⟩ := sched_Check.mono_l k
  refine ⟨?_, ?_⟩
  ·
   intro y0 y1 y2 y3 y4 y5 y6 y7 y8 y9 y10
   unfold sched_Check.j0
   repeat' first
   | (with_reducible exact ih0 _ _ _ _ _ _ _ _ _ _ _)
   | (with_reducible exact ih1 _ _ _ _ _ _ _ _ _ _ _)
   | (with_reducible exact LeO.refl _)
   | (with_reducible exact LeO.none _)
   | (with_reducible refine LeO.ite ?_ ?_)
   | (with_reducible refine LeO.bind ?_ (fun _ => ?_))
   | exact ih0 _ _ _ _ _ _ _ _ _ _ _
   | exact ih1 _ _ _ _ _ _ _ _ _ _ _
   | exact LeO.none _
   | refine LeO.ite ?_ ?_
   | refine LeO.bind ?_ (fun _ => ?_)
  ·
   intro y0 y1 y2 y3 y4 y5 y6 y7 y8 y9 y10
   unfold sched_Check.j1
   repeat' first
   | (with_reducible exact ih0 _ _ _ _ _ _ _ _ _ _ _)
   | (with_reducible exact ih1 _ _ _ _ _ _ _ _ _ _ _)
   | (with_reducible exact LeO.refl _)
   | (with_reducible exact LeO.none _)
   | (with_reducible refine LeO.ite ?_ ?_)
   | (with_reducible refine LeO.bind ?_ (fun _ => ?_))
   | exact ih0 _ _ _ _ _ _ _ _ _ _ _
   | exact ih1 _ _ _ _ _ _ _ _ _ _ _
   | exact LeO.none _
   | refine LeO.ite ?_ ?_
   | refine LeO.bind ?_ (fun _ => ?_)
theorem sched_Check.mono : ∀ a0 a1 a2 a3 a4 a5 a6 a7 a8 a9 k, LeO (sched_Check.f k a0 a1 a2 a3 a4 a5 a6 a7 a8 a9) (sched_Check.f (k + 1) a0 a1 a2 a3 a4 a5 a6 a7 a8 a9) := by
 intro a0 a1 a2 a3 a4 a5 a6 a7 a8 a9 k
 obtain ⟨ih0, ih1⟩ := sched_Check.mono_l k
 unfold sched_Check.f
 repeat' first
   | (with_reducible exact ih0 _ _ _ _ _ _ _ _ _ _ _)
   | (with_reducible exact ih1 _ _ _ _ _ _ _ _ _ _ _)
   | (with_reducible exact LeO.refl _)
   | (with_reducible exact LeO.none _)
   | (with_reducible refine LeO.ite ?_ ?_)
   | (with_reducible refine LeO.bind ?_ (fun _ => ?_))
   | exact ih0 _ _ _ _ _ _ _ _ _ _ _
   | exact ih1 _ _ _ _ _ _ _ _ _ _ _
   | exact LeO.none _
   | refine LeO.ite ?_ ?_
   | refine LeO.bind ?_ (fun _ => ?_)
set_option maxHeartbeats 8000000 in
set_option maxRecDepth 100000 in
theorem sched_Check.calls (k : Nat) (a0_0 : Int) (a0_1 : Int) (a0_2 : Int) (a0_3 : Int) (a0_4 : Int) (a0_5 : Int) (a0_6 : Int) (a0_7 : Int) (a0_8 : Int) (A0_9 : Option Addr) (c0_9 : Nat) (l0_9 : List (S63)) (r : Int) (w : World) (hr0_9 : Kd.C k63 w A0_9 l0_9.length l0_9) (hc0_9 : l0_9.length ≤ c0_9) (h : sched_Check.f k a0_0 a0_1 a0_2 a0_3 a0_4 a0_5 a0_6 a0_7 a0_8 l0_9 = some r) :
  Calls Try.prog 57 #[.agg #[.int .i64 a0_0, .int .i64 a0_1, .int .i64 a0_2, .int .i64 a0_3, .int .i64 a0_4, .int .i64 a0_5, .int .i64 a0_6, .int .i64 a0_7, .int .i64 a0_8, .slice A0_9 l0_9.length c0_9]] w fun e w' => e = .returned (.int .i64 r) ∧ Below w.heap.size w w' := by
 have hu66 := Try.underlying66;have hu24 := Try.underlying24;have HR0_9 := Aside0.mk hr0_9;have HC0_9 := Aside0.mk hc0_9;clear hr0_9 hc0_9
 have HB := Aside0.mk (Below.refl w.heap.size w)
 have H : ((sched_is.f a0_0).bind fun t710 => (if t710 = true then ((sched_is.f a0_1).bind fun t711 => (sched_Check.j0 k (!t711) a0_0 a0_1 a0_2 a0_3 a0_4 a0_5 a0_6 a0_7 a0_8 l0_9)) else (sched_Check.j0 k true a0_0 a0_1 a0_2 a0_3 a0_4 a0_5 a0_6 a0_7 a0_8 l0_9))) = some r := h
 clear h;have HC2 := Aside0.mk H;clear H
 go_enter Try.func57, Try.ntmps57
 go_upto_region 1 with (first | ((with_reducible refine gate_dst (N := 1) rfl ?_); refine box_event ?hg (N := 1) ?hd (cs := #[.int .i64 a0_0, .int .i64 a0_1, .int .i64 a0_2, .int .i64 a0_3, .int .i64 a0_4, .int .i64 a0_5, .int .i64 a0_6, .int .i64 a0_7, .int .i64 a0_8, .slice A0_9 l0_9.length c0_9]) (t := 66) ?hr ?_; (case hd => rfl); (case hg => rfl); (case hr => first | (go_simp; done) | (go_simp; rfl)); intro gb709 hg w3 hbox hb; have n0_ := Aside0.mk (below_step (by repeat (first | (with_reducible first | exact HB.out | apply below_alloc | apply pw_below_drewN | apply below_drew1) | exact HB.out)) hb); have n1_ := Aside0.mk (hbox); have n2_ := Aside0.mk ((by rw [hg]; exact (below_size (by repeat (first | (with_reducible first | exact HB.out | apply below_alloc | apply pw_below_drewN | apply below_drew1) | exact HB.out))) : w.heap.size ≤ gb709)); have n3_ := Aside0.mk ((by rw [hg]; exact (below_size (by repeat (first | (with_reducible first | exact HB.out | apply below_alloc | apply pw_below_drewN | apply below_drew1) | exact HB.out))) : w.heap.size ≤ gb709)); clear HB; have HB := n0_; have BK709 := n1_; have GW709 := n2_; have GE709 := n3_; clear n0_ n1_ n2_ n3_; clear hb hbox hg))
 (try simp only [Act.put, List.setIfInBounds_toArray, List.set_cons_zero, List.set_cons_succ])
 go_cut [5] (fun v5 wc => ∃ (kq : Nat) (x5_1 : Bool), v5 = .bool x5_1 ∧ Aside0 (sched_Check.j0 kq x5_1 a0_0 a0_1 a0_2 a0_3 a0_4 a0_5 a0_6 a0_7 a0_8 l0_9 = some r) ∧ Aside0 (kq ≤ k) ∧ Aside0 (wc.heap[gb709]? = some (.cells #[.int .i64 a0_0, .int .i64 a0_1, .int .i64 a0_2, .int .i64 a0_3, .int .i64 a0_4, .int .i64 a0_5, .int .i64 a0_6, .int .i64 a0_7, .int .i64 a0_8, (.slice A0_9 l0_9.length c0_9)] 66 (0, 0))) ∧ Aside0 (Below w.heap.size w wc))
 case first =>
  have H := HC2.out;clear HC2;replace H := Option.bind_eq_some_iff.mp H
  obtain ⟨t710, A40, H⟩ := H
  replace H : (if t710 = true then ((sched_is.f a0_1).bind fun t711 => (sched_Check.j0 k (!t711) a0_0 a0_1 a0_2 a0_3 a0_4 a0_5 a0_6 a0_7 a0_8 l0_9)) else (sched_Check.j0 k true a0_0 a0_1 a0_2 a0_3 a0_4 a0_5 a0_6 a0_7 a0_8 l0_9)) = some r := H
  have A4 := Aside0.mk A40;clear A40
  by_cases c5 : t710 = true
  ·
   subst c5
   have H1 : ((sched_is.f a0_1).bind fun t711 => (sched_Check.j0 k (!t711) a0_0 a0_1 a0_2 a0_3 a0_4 a0_5 a0_6 a0_7 a0_8 l0_9)) = some r := by rw [if_pos rfl] at H; exact H
   clear H;have H := H1;clear H1;replace H := Option.bind_eq_some_iff.mp H
   obtain ⟨t711, A60, H⟩ := H
   replace H : (sched_Check.j0 k (!t711) a0_0 a0_1 a0_2 a0_3 a0_4 a0_5 a0_6 a0_7 a0_8 l0_9) = some r := H
   have A6 := Aside0.mk A60;clear A60;have H' := Aside0.mk H;clear H
   have hcz7_0 : w3.cell? ⟨gb709, 0, none⟩ = some (.int .i64 a0_0) := (blk_cell BK709.out 0).trans rfl
   have hcz7_1 : w3.cell? ⟨gb709, 1, none⟩ = some (.int .i64 a0_1) := (blk_cell BK709.out 1).trans rfl
   have hcz7_2 : w3.cell? ⟨gb709, 2, none⟩ = some (.int .i64 a0_2) := (blk_cell BK709.out 2).trans rfl
   have hcz7_3 : w3.cell? ⟨gb709, 3, none⟩ = some (.int .i64 a0_3) := (blk_cell BK709.out 3).trans rfl
   have hcz7_4 : w3.cell? ⟨gb709, 4, none⟩ = some (.int .i64 a0_4) := (blk_cell BK709.out 4).trans rfl
   have hcz7_5 : w3.cell? ⟨gb709, 5, none⟩ = some (.int .i64 a0_5) := (blk_cell BK709.out 5).trans rfl
   have hcz7_6 : w3.cell? ⟨gb709, 6, none⟩ = some (.int .i64 a0_6) := (blk_cell BK709.out 6).trans rfl
   have hcz7_7 : w3.cell? ⟨gb709, 7, none⟩ = some (.int .i64 a0_7) := (blk_cell BK709.out 7).trans rfl
   have hcz7_8 : w3.cell? ⟨gb709, 8, none⟩ = some (.int .i64 a0_8) := (blk_cell BK709.out 8).trans rfl
   have hcz7_9 : w3.cell? ⟨gb709, 9, none⟩ = some (.slice A0_9 l0_9.length c0_9) := (blk_cell BK709.out 9).trans rfl
   have hfz7_0 := blk_frozen BK709.out 0;have hfz7_1 := blk_frozen BK709.out 1;have hfz7_2 := blk_frozen BK709.out 2;have hfz7_3 := blk_frozen BK709.out 3;have hfz7_4 := blk_frozen BK709.out 4;have hfz7_5 := blk_frozen BK709.out 5;have hfz7_6 := blk_frozen BK709.out 6;have hfz7_7 := blk_frozen BK709.out 7;have hfz7_8 := blk_frozen BK709.out 8;have hfz7_9 := blk_frozen BK709.out 9
   go_wp2_with (first | ((with_reducible refine gate_callee (f := 90) rfl ?_); refine goesL_ (some 8) rfl rfl Try.func90 (by kernel_rfl) rfl #[.int .i64 a0_0] rfl (by (try simp only [List.map_toArray, List.map_cons, List.map_nil]); first | done | rfl | (simp only [List.length_drop, List.length_take]; rfl)) ?_; (with_reducible refine (sched_is.calls a0_0 true _ A4.out).mono ?_); rintro e w' ⟨rfl, ⟨nd, rfl⟩⟩; refine ⟨_, rfl, ?_⟩) | (go_at_call 90; (with_reducible refine (sched_is.calls a0_1 t711 _ A6.out).mono ?_); rintro e w' ⟨rfl, ⟨nd, rfl⟩⟩))
   go_meet
   case rel => exact ⟨_, (!t711), (by first | rfl | (simp; done) | (simp [*]; done)), H', ⟨by first | omega | exact Nat.le_refl _⟩, ⟨by (with_reducible repeat (first | refine blk_drewN ?_ _ | refine blk_drew ?_ | refine blk_alloc ?_ _)); exact BK709.out⟩, ⟨by repeat (first | (with_reducible first | exact HB.out | apply below_alloc | apply pw_below_drewN | apply below_drew1 | refine below_set ?_ GE709.out) | exact HB.out)⟩⟩
  ·
   replace c5 := Bool.eq_false_iff.mpr c5;subst c5
   have H1 : (sched_Check.j0 k true a0_0 a0_1 a0_2 a0_3 a0_4 a0_5 a0_6 a0_7 a0_8 l0_9) = some r := by rw [if_neg (show ¬ (false = true) by decide)] at H; exact H
   clear H;have H := H1;clear H1;have H' := Aside0.mk H;clear H
   have hcz8_0 : w3.cell? ⟨gb709, 0, none⟩ = some (.int .i64 a0_0) := (blk_cell BK709.out 0).trans rfl
   have hcz8_1 : w3.cell? ⟨gb709, 1, none⟩ = some (.int .i64 a0_1) := (blk_cell BK709.out 1).trans rfl
   have hcz8_2 : w3.cell? ⟨gb709, 2, none⟩ = some (.int .i64 a0_2) := (blk_cell BK709.out 2).trans rfl
   have hcz8_3 : w3.cell? ⟨gb709, 3, none⟩ = some (.int .i64 a0_3) := (blk_cell BK709.out 3).trans rfl
   have hcz8_4 : w3.cell? ⟨gb709, 4, none⟩ = some (.int .i64 a0_4) := (blk_cell BK709.out 4).trans rfl
   have hcz8_5 : w3.cell? ⟨gb709, 5, none⟩ = some (.int .i64 a0_5) := (blk_cell BK709.out 5).trans rfl
   have hcz8_6 : w3.cell? ⟨gb709, 6, none⟩ = some (.int .i64 a0_6) := (blk_cell BK709.out 6).trans rfl
   have hcz8_7 : w3.cell? ⟨gb709, 7, none⟩ = some (.int .i64 a0_7) := (blk_cell BK709.out 7).trans rfl
   have hcz8_8 : w3.cell? ⟨gb709, 8, none⟩ = some (.int .i64 a0_8) := (blk_cell BK709.out 8).trans rfl
   have hcz8_9 : w3.cell? ⟨gb709, 9, none⟩ = some (.slice A0_9 l0_9.length c0_9) := (blk_cell BK709.out 9).trans rfl
   have hfz8_0 := blk_frozen BK709.out 0;have hfz8_1 := blk_frozen BK709.out 1;have hfz8_2 := blk_frozen BK709.out 2;have hfz8_3 := blk_frozen BK709.out 3;have hfz8_4 := blk_frozen BK709.out 4;have hfz8_5 := blk_frozen BK709.out 5;have hfz8_6 := blk_frozen BK709.out 6;have hfz8_7 := blk_frozen BK709.out 7;have hfz8_8 := blk_frozen BK709.out 8;have hfz8_9 := blk_frozen BK709.out 9
   go_wp2_with (first | ((with_reducible refine gate_callee (f := 90) rfl ?_); refine goesL_ (some 8) rfl rfl Try.func90 (by kernel_rfl) rfl #[.int .i64 a0_0] rfl (by (try simp only [List.map_toArray, List.map_cons, List.map_nil]); first | done | rfl | (simp only [List.length_drop, List.length_take]; rfl)) ?_; (with_reducible refine (sched_is.calls a0_0 false _ A4.out).mono ?_); rintro e w' ⟨rfl, ⟨nd, rfl⟩⟩; refine ⟨_, rfl, ?_⟩))
   go_meet
   case rel => exact ⟨_, (true), (by first | rfl | (simp; done) | (simp [*]; done)), H', ⟨by first | omega | exact Nat.le_refl _⟩, ⟨by (with_reducible repeat (first | refine blk_drewN ?_ _ | refine blk_drew ?_ | refine blk_alloc ?_ _)); exact BK709.out⟩, ⟨by repeat (first | (with_reducible first | exact HB.out | apply below_alloc | apply pw_below_drewN | apply below_drew1 | refine below_set ?_ GE709.out) | exact HB.out)⟩⟩
 case rest =>
  clear HC2
  obtain ⟨kq, x5_1, rfl, HA, HJ1, BK709, HB⟩ := hcut
  cases kq with
  | zero => exact absurd HA.out (by simp [sched_Check.j0])
  | succ kj1 =>
   have H := HA.out;clear HA
   simp only [sched_Check.j0] at H
   by_cases c9 : x5_1 = true
   ·
    subst c9
    have H1 : (some 51) = some r := by rw [if_pos rfl] at H; exact H
    clear H;have H := H1;clear H1
    obtain rfl := Option.some.inj H
    go_wp2
    go_ret
    exact ⟨by first | rfl | (simp [errW_none, errW_some] <;> rfl) | (simp [*, errW_none, errW_some] <;> rfl), by repeat (first | (with_reducible first | exact HB.out | apply below_alloc | apply pw_below_drewN | apply below_drew1 | refine below_set ?_ GE709.out) | exact HB.out)⟩
   ·
    replace c9 := Bool.eq_false_iff.mpr c9;subst c9
    have H1 : (if a0_0 ≥ a0_1 then (some 80) else ((sched_within.f a0_2 1 1200).bind fun t712 => (if t712 = true then ((sched_within.f a0_3 1 4).bind fun t713 => (if t713 = true then ((sched_within.f a0_4 1 4).bind fun t714 => (if t714 = true then ((sched_within.f a0_5 0 2).bind fun t715 => (if t715 = true then (if a0_5 = 0 then (sched_Check.j1 kj1 false a0_0 a0_1 a0_2 a0_3 a0_4 a0_5 a0_6 a0_7 a0_8 l0_9) else (sched_Check.j1 kj1 (decide (a0_3 ≤ 2)) a0_0 a0_1 a0_2 a0_3 a0_4 a0_5 a0_6 a0_7 a0_8 l0_9)) else (some 80))) else (some 80))) else (some 80))) else (some 80)))) = some r := by rw [if_neg (show ¬ (false = true) by decide)] at H; exact H
    clear H;have H := H1;clear H1
    by_cases c10 : a0_0 ≥ a0_1
    ·
     rw [if_pos c10] at H
     have c10b0 : decide (a0_1 ≤ a0_0) = true := decide_eq_true c10
     clear c10
     obtain rfl := Option.some.inj H
     have hcz11_0 : wc.cell? ⟨gb709, 0, none⟩ = some (.int .i64 a0_0) := (blk_cell BK709.out 0).trans rfl
     have hcz11_1 : wc.cell? ⟨gb709, 1, none⟩ = some (.int .i64 a0_1) := (blk_cell BK709.out 1).trans rfl
     have hcz11_2 : wc.cell? ⟨gb709, 2, none⟩ = some (.int .i64 a0_2) := (blk_cell BK709.out 2).trans rfl
     have hcz11_3 : wc.cell? ⟨gb709, 3, none⟩ = some (.int .i64 a0_3) := (blk_cell BK709.out 3).trans rfl
     have hcz11_4 : wc.cell? ⟨gb709, 4, none⟩ = some (.int .i64 a0_4) := (blk_cell BK709.out 4).trans rfl
     have hcz11_5 : wc.cell? ⟨gb709, 5, none⟩ = some (.int .i64 a0_5) := (blk_cell BK709.out 5).trans rfl
     have hcz11_6 : wc.cell? ⟨gb709, 6, none⟩ = some (.int .i64 a0_6) := (blk_cell BK709.out 6).trans rfl
     have hcz11_7 : wc.cell? ⟨gb709, 7, none⟩ = some (.int .i64 a0_7) := (blk_cell BK709.out 7).trans rfl
     have hcz11_8 : wc.cell? ⟨gb709, 8, none⟩ = some (.int .i64 a0_8) := (blk_cell BK709.out 8).trans rfl
     have hcz11_9 : wc.cell? ⟨gb709, 9, none⟩ = some (.slice A0_9 l0_9.length c0_9) := (blk_cell BK709.out 9).trans rfl
     have hfz11_0 := blk_frozen BK709.out 0;have hfz11_1 := blk_frozen BK709.out 1;have hfz11_2 := blk_frozen BK709.out 2;have hfz11_3 := blk_frozen BK709.out 3;have hfz11_4 := blk_frozen BK709.out 4;have hfz11_5 := blk_frozen BK709.out 5;have hfz11_6 := blk_frozen BK709.out 6;have hfz11_7 := blk_frozen BK709.out 7;have hfz11_8 := blk_frozen BK709.out 8;have hfz11_9 := blk_frozen BK709.out 9
     go_wp2
     go_ret
     exact ⟨by first | rfl | (simp [errW_none, errW_some] <;> rfl) | (simp [*, errW_none, errW_some] <;> rfl), by repeat (first | (with_reducible first | exact HB.out | apply below_alloc | apply pw_below_drewN | apply below_drew1 | refine below_set ?_ GE709.out) | exact HB.out)⟩
    ·
     rw [if_neg c10] at H
     have c10b0 : decide (a0_1 ≤ a0_0) = false := decide_eq_false c10
     clear c10;replace H := Option.bind_eq_some_iff.mp H
     obtain ⟨t712, A120, H⟩ := H
     replace H : (if t712 = true then ((sched_within.f a0_3 1 4).bind fun t713 => (if t713 = true then ((sched_within.f a0_4 1 4).bind fun t714 => (if t714 = true then ((sched_within.f a0_5 0 2).bind fun t715 => (if t715 = true then (if a0_5 = 0 then (sched_Check.j1 kj1 false a0_0 a0_1 a0_2 a0_3 a0_4 a0_5 a0_6 a0_7 a0_8 l0_9) else (sched_Check.j1 kj1 (decide (a0_3 ≤ 2)) a0_0 a0_1 a0_2 a0_3 a0_4 a0_5 a0_6 a0_7 a0_8 l0_9)) else (some 80))) else (some 80))) else (some 80))) else (some 80)) = some r := H
     have A12 := Aside0.mk A120;clear A120
     by_cases c13 : t712 = true
     ·
      subst c13
      have H1 : ((sched_within.f a0_3 1 4).bind fun t713 => (if t713 = true then ((sched_within.f a0_4 1 4).bind fun t714 => (if t714 = true then ((sched_within.f a0_5 0 2).bind fun t715 => (if t715 = true then (if a0_5 = 0 then (sched_Check.j1 kj1 false a0_0 a0_1 a0_2 a0_3 a0_4 a0_5 a0_6 a0_7 a0_8 l0_9) else (sched_Check.j1 kj1 (decide (a0_3 ≤ 2)) a0_0 a0_1 a0_2 a0_3 a0_4 a0_5 a0_6 a0_7 a0_8 l0_9)) else (some 80))) else (some 80))) else (some 80))) = some r := by rw [if_pos rfl] at H; exact H
      clear H;have H := H1;clear H1;replace H := Option.bind_eq_some_iff.mp H
      obtain ⟨t713, A140, H⟩ := H
      replace H : (if t713 = true then ((sched_within.f a0_4 1 4).bind fun t714 => (if t714 = true then ((sched_within.f a0_5 0 2).bind fun t715 => (if t715 = true then (if a0_5 = 0 then (sched_Check.j1 kj1 false a0_0 a0_1 a0_2 a0_3 a0_4 a0_5 a0_6 a0_7 a0_8 l0_9) else (sched_Check.j1 kj1 (decide (a0_3 ≤ 2)) a0_0 a0_1 a0_2 a0_3 a0_4 a0_5 a0_6 a0_7 a0_8 l0_9)) else (some 80))) else (some 80))) else (some 80)) = some r := H
      have A14 := Aside0.mk A140;clear A140
      by_cases c15 : t713 = true
      ·
       subst c15
       have H1 : ((sched_within.f a0_4 1 4).bind fun t714 => (if t714 = true then ((sched_within.f a0_5 0 2).bind fun t715 => (if t715 = true then (if a0_5 = 0 then (sched_Check.j1 kj1 false a0_0 a0_1 a0_2 a0_3 a0_4 a0_5 a0_6 a0_7 a0_8 l0_9) else (sched_Check.j1 kj1 (decide (a0_3 ≤ 2)) a0_0 a0_1 a0_2 a0_3 a0_4 a0_5 a0_6 a0_7 a0_8 l0_9)) else (some 80))) else (some 80))) = some r := by rw [if_pos rfl] at H; exact H
       clear H;have H := H1;clear H1;replace H := Option.bind_eq_some_iff.mp H
       obtain ⟨t714, A160, H⟩ := H
       replace H : (if t714 = true then ((sched_within.f a0_5 0 2).bind fun t715 => (if t715 = true then (if a0_5 = 0 then (sched_Check.j1 kj1 false a0_0 a0_1 a0_2 a0_3 a0_4 a0_5 a0_6 a0_7 a0_8 l0_9) else (sched_Check.j1 kj1 (decide (a0_3 ≤ 2)) a0_0 a0_1 a0_2 a0_3 a0_4 a0_5 a0_6 a0_7 a0_8 l0_9)) else (some 80))) else (some 80)) = some r := H
       have A16 := Aside0.mk A160;clear A160
       by_cases c17 : t714 = true
       ·
        subst c17
        have H1 : ((sched_within.f a0_5 0 2).bind fun t715 => (if t715 = true then (if a0_5 = 0 then (sched_Check.j1 kj1 false a0_0 a0_1 a0_2 a0_3 a0_4 a0_5 a0_6 a0_7 a0_8 l0_9) else (sched_Check.j1 kj1 (decide (a0_3 ≤ 2)) a0_0 a0_1 a0_2 a0_3 a0_4 a0_5 a0_6 a0_7 a0_8 l0_9)) else (some 80))) = some r := by rw [if_pos rfl] at H; exact H
        clear H;have H := H1;clear H1;replace H := Option.bind_eq_some_iff.mp H
        obtain ⟨t715, A180, H⟩ := H
        replace H : (if t715 = true then (if a0_5 = 0 then (sched_Check.j1 kj1 false a0_0 a0_1 a0_2 a0_3 a0_4 a0_5 a0_6 a0_7 a0_8 l0_9) else (sched_Check.j1 kj1 (decide (a0_3 ≤ 2)) a0_0 a0_1 a0_2 a0_3 a0_4 a0_5 a0_6 a0_7 a0_8 l0_9)) else (some 80)) = some r := H
        have A18 := Aside0.mk A180;clear A180
        by_cases c19 : t715 = true
        ·
         subst c19
         have H1 : (if a0_5 = 0 then (sched_Check.j1 kj1 false a0_0 a0_1 a0_2 a0_3 a0_4 a0_5 a0_6 a0_7 a0_8 l0_9) else (sched_Check.j1 kj1 (decide (a0_3 ≤ 2)) a0_0 a0_1 a0_2 a0_3 a0_4 a0_5 a0_6 a0_7 a0_8 l0_9)) = some r := by rw [if_pos rfl] at H; exact H
         clear H;have H := H1;clear H1;have HC20 := Aside0.mk H;clear H
         have hcz21_0 : wc.cell? ⟨gb709, 0, none⟩ = some (.int .i64 a0_0) := (blk_cell BK709.out 0).trans rfl
         have hcz21_1 : wc.cell? ⟨gb709, 1, none⟩ = some (.int .i64 a0_1) := (blk_cell BK709.out 1).trans rfl
         have hcz21_2 : wc.cell? ⟨gb709, 2, none⟩ = some (.int .i64 a0_2) := (blk_cell BK709.out 2).trans rfl
         have hcz21_3 : wc.cell? ⟨gb709, 3, none⟩ = some (.int .i64 a0_3) := (blk_cell BK709.out 3).trans rfl
         have hcz21_4 : wc.cell? ⟨gb709, 4, none⟩ = some (.int .i64 a0_4) := (blk_cell BK709.out 4).trans rfl
         have hcz21_5 : wc.cell? ⟨gb709, 5, none⟩ = some (.int .i64 a0_5) := (blk_cell BK709.out 5).trans rfl
         have hcz21_6 : wc.cell? ⟨gb709, 6, none⟩ = some (.int .i64 a0_6) := (blk_cell BK709.out 6).trans rfl
         have hcz21_7 : wc.cell? ⟨gb709, 7, none⟩ = some (.int .i64 a0_7) := (blk_cell BK709.out 7).trans rfl
         have hcz21_8 : wc.cell? ⟨gb709, 8, none⟩ = some (.int .i64 a0_8) := (blk_cell BK709.out 8).trans rfl
         have hcz21_9 : wc.cell? ⟨gb709, 9, none⟩ = some (.slice A0_9 l0_9.length c0_9) := (blk_cell BK709.out 9).trans rfl
         have hfz21_0 := blk_frozen BK709.out 0;have hfz21_1 := blk_frozen BK709.out 1;have hfz21_2 := blk_frozen BK709.out 2;have hfz21_3 := blk_frozen BK709.out 3;have hfz21_4 := blk_frozen BK709.out 4;have hfz21_5 := blk_frozen BK709.out 5;have hfz21_6 := blk_frozen BK709.out 6;have hfz21_7 := blk_frozen BK709.out 7;have hfz21_8 := blk_frozen BK709.out 8;have hfz21_9 := blk_frozen BK709.out 9
         go_upto_region 8 with (first | ((with_reducible refine gate_callee (f := 91) rfl ?_); refine goesL_ (some 24) rfl rfl Try.func91 (by kernel_rfl) rfl #[.int .i64 a0_2, .int .i64 1, .int .i64 1200] rfl (by (try simp only [List.map_toArray, List.map_cons, List.map_nil]); first | done | rfl | (simp only [List.length_drop, List.length_take]; rfl)) ?_; (with_reducible refine (sched_within.calls a0_2 1 1200 true _ A12.out).mono ?_); rintro e w' ⟨rfl, ⟨nd, rfl⟩⟩; refine ⟨_, rfl, ?_⟩) | ((with_reducible refine gate_callee (f := 91) rfl ?_); refine goesL_ (some 28) rfl rfl Try.func91 (by kernel_rfl) rfl #[.int .i64 a0_3, .int .i64 1, .int .i64 4] rfl (by (try simp only [List.map_toArray, List.map_cons, List.map_nil]); first | done | rfl | (simp only [List.length_drop, List.length_take]; rfl)) ?_; (with_reducible refine (sched_within.calls a0_3 1 4 true _ A14.out).mono ?_); rintro e w' ⟨rfl, ⟨nd, rfl⟩⟩; refine ⟨_, rfl, ?_⟩) | ((with_reducible refine gate_callee (f := 91) rfl ?_); refine goesL_ (some 32) rfl rfl Try.func91 (by kernel_rfl) rfl #[.int .i64 a0_4, .int .i64 1, .int .i64 4] rfl (by (try simp only [List.map_toArray, List.map_cons, List.map_nil]); first | done | rfl | (simp only [List.length_drop, List.length_take]; rfl)) ?_; (with_reducible refine (sched_within.calls a0_4 1 4 true _ A16.out).mono ?_); rintro e w' ⟨rfl, ⟨nd, rfl⟩⟩; refine ⟨_, rfl, ?_⟩) | ((with_reducible refine gate_callee (f := 91) rfl ?_); refine goesL_ (some 36) rfl rfl Try.func91 (by kernel_rfl) rfl #[.int .i64 a0_5, .int .i64 0, .int .i64 2] rfl (by (try simp only [List.map_toArray, List.map_cons, List.map_nil]); first | done | rfl | (simp only [List.length_drop, List.length_take]; rfl)) ?_; (with_reducible refine (sched_within.calls a0_5 0 2 true _ A18.out).mono ?_); rintro e w' ⟨rfl, ⟨nd, rfl⟩⟩; refine ⟨_, rfl, ?_⟩))
         (try simp only [Act.put, List.setIfInBounds_toArray, List.set_cons_zero, List.set_cons_succ])
         go_cut [16] (fun v16 wc => ∃ (kq : Nat) (x16_19 : Bool), v16 = .bool x16_19 ∧ Aside0 (sched_Check.j1 kq x16_19 a0_0 a0_1 a0_2 a0_3 a0_4 a0_5 a0_6 a0_7 a0_8 l0_9 = some r) ∧ Aside0 (kq ≤ kj1) ∧ Aside0 (wc.heap[gb709]? = some (.cells #[.int .i64 a0_0, .int .i64 a0_1, .int .i64 a0_2, .int .i64 a0_3, .int .i64 a0_4, .int .i64 a0_5, .int .i64 a0_6, .int .i64 a0_7, .int .i64 a0_8, (.slice A0_9 l0_9.length c0_9)] 66 (0, 0))) ∧ Aside0 (Below w.heap.size w wc))
         case first =>
          have H := HC20.out;clear HC20
          by_cases c22 : a0_5 = 0
          ·
           rw [if_pos c22] at H
           have c22b0 : (a0_5 == 0) = true := beq_iff_eq.mpr c22
           have c22b1 : (a0_5 != 0) = false := bne_eq_false_iff_eq.mpr c22
           clear c22
           (first | rw [c22b0] | (simp only [i64_w, i32_w]; rw [c22b0]) | skip)
           have H' := Aside0.mk H;clear H
           have hcz23_0 : wc.cell? ⟨gb709, 0, none⟩ = some (.int .i64 a0_0) := (blk_cell BK709.out 0).trans rfl
           have hcz23_1 : wc.cell? ⟨gb709, 1, none⟩ = some (.int .i64 a0_1) := (blk_cell BK709.out 1).trans rfl
           have hcz23_2 : wc.cell? ⟨gb709, 2, none⟩ = some (.int .i64 a0_2) := (blk_cell BK709.out 2).trans rfl
           have hcz23_3 : wc.cell? ⟨gb709, 3, none⟩ = some (.int .i64 a0_3) := (blk_cell BK709.out 3).trans rfl
           have hcz23_4 : wc.cell? ⟨gb709, 4, none⟩ = some (.int .i64 a0_4) := (blk_cell BK709.out 4).trans rfl
           have hcz23_5 : wc.cell? ⟨gb709, 5, none⟩ = some (.int .i64 a0_5) := (blk_cell BK709.out 5).trans rfl
           have hcz23_6 : wc.cell? ⟨gb709, 6, none⟩ = some (.int .i64 a0_6) := (blk_cell BK709.out 6).trans rfl
           have hcz23_7 : wc.cell? ⟨gb709, 7, none⟩ = some (.int .i64 a0_7) := (blk_cell BK709.out 7).trans rfl
           have hcz23_8 : wc.cell? ⟨gb709, 8, none⟩ = some (.int .i64 a0_8) := (blk_cell BK709.out 8).trans rfl
           have hcz23_9 : wc.cell? ⟨gb709, 9, none⟩ = some (.slice A0_9 l0_9.length c0_9) := (blk_cell BK709.out 9).trans rfl
           have hfz23_0 := blk_frozen BK709.out 0;have hfz23_1 := blk_frozen BK709.out 1;have hfz23_2 := blk_frozen BK709.out 2;have hfz23_3 := blk_frozen BK709.out 3;have hfz23_4 := blk_frozen BK709.out 4;have hfz23_5 := blk_frozen BK709.out 5;have hfz23_6 := blk_frozen BK709.out 6;have hfz23_7 := blk_frozen BK709.out 7;have hfz23_8 := blk_frozen BK709.out 8;have hfz23_9 := blk_frozen BK709.out 9
           go_wp2
           go_meet
           case rel => exact ⟨_, (false), (by first | rfl | (simp; done) | (simp [*]; done)), H', ⟨by have := HJ1.out; first | omega | exact Nat.le_refl _⟩, ⟨by (with_reducible repeat (first | refine blk_drewN ?_ _ | refine blk_drew ?_ | refine blk_alloc ?_ _)); exact BK709.out⟩, ⟨by repeat (first | (with_reducible first | exact HB.out | apply below_alloc | apply pw_below_drewN | apply below_drew1 | refine below_set ?_ GE709.out) | exact HB.out)⟩⟩
          ·
           rw [if_neg c22] at H
           have c22b0 : (a0_5 == 0) = false := beq_eq_false_iff_ne.mpr c22
           have c22b1 : (a0_5 != 0) = true := bne_iff_ne.mpr c22
           (first | rw [c22b0] | (simp only [i64_w, i32_w]; rw [c22b0]) | skip)
           have H' := Aside0.mk H;clear H
           have hcz24_0 : wc.cell? ⟨gb709, 0, none⟩ = some (.int .i64 a0_0) := (blk_cell BK709.out 0).trans rfl
           have hcz24_1 : wc.cell? ⟨gb709, 1, none⟩ = some (.int .i64 a0_1) := (blk_cell BK709.out 1).trans rfl
           have hcz24_2 : wc.cell? ⟨gb709, 2, none⟩ = some (.int .i64 a0_2) := (blk_cell BK709.out 2).trans rfl
           have hcz24_3 : wc.cell? ⟨gb709, 3, none⟩ = some (.int .i64 a0_3) := (blk_cell BK709.out 3).trans rfl
           have hcz24_4 : wc.cell? ⟨gb709, 4, none⟩ = some (.int .i64 a0_4) := (blk_cell BK709.out 4).trans rfl
           have hcz24_5 : wc.cell? ⟨gb709, 5, none⟩ = some (.int .i64 a0_5) := (blk_cell BK709.out 5).trans rfl
           have hcz24_6 : wc.cell? ⟨gb709, 6, none⟩ = some (.int .i64 a0_6) := (blk_cell BK709.out 6).trans rfl
           have hcz24_7 : wc.cell? ⟨gb709, 7, none⟩ = some (.int .i64 a0_7) := (blk_cell BK709.out 7).trans rfl
           have hcz24_8 : wc.cell? ⟨gb709, 8, none⟩ = some (.int .i64 a0_8) := (blk_cell BK709.out 8).trans rfl
           have hcz24_9 : wc.cell? ⟨gb709, 9, none⟩ = some (.slice A0_9 l0_9.length c0_9) := (blk_cell BK709.out 9).trans rfl
           have hfz24_0 := blk_frozen BK709.out 0;have hfz24_1 := blk_frozen BK709.out 1;have hfz24_2 := blk_frozen BK709.out 2;have hfz24_3 := blk_frozen BK709.out 3;have hfz24_4 := blk_frozen BK709.out 4;have hfz24_5 := blk_frozen BK709.out 5;have hfz24_6 := blk_frozen BK709.out 6;have hfz24_7 := blk_frozen BK709.out 7;have hfz24_8 := blk_frozen BK709.out 8;have hfz24_9 := blk_frozen BK709.out 9
           go_wp2
           go_meet
           case rel => exact ⟨_, (decide (a0_3 ≤ 2)), (by first | rfl | (simp; done) | (simp [*]; done)), H', ⟨by have := HJ1.out; first | omega | exact Nat.le_refl _⟩, ⟨by (with_reducible repeat (first | refine blk_drewN ?_ _ | refine blk_drew ?_ | refine blk_alloc ?_ _)); exact BK709.out⟩, ⟨by repeat (first | (with_reducible first | exact HB.out | apply below_alloc | apply pw_below_drewN | apply below_drew1 | refine below_set ?_ GE709.out) | exact HB.out)⟩⟩
         case rest =>
          clear HC20
          obtain ⟨kq, x16_19, rfl, HA, HJ19, BK709, HB⟩ := hcut
          cases kq with
          | zero => exact absurd HA.out (by simp [sched_Check.j1])
          | succ kj19 =>
           have H := HA.out;clear HA
           simp only [sched_Check.j1] at H
           by_cases c25 : x16_19 = true
           ·
            subst c25
            have H1 : (some 80) = some r := by rw [if_pos rfl] at H; exact H
            clear H;have H := H1;clear H1
            obtain rfl := Option.some.inj H
            go_wp2
            go_ret
            exact ⟨by first | rfl | (simp [errW_none, errW_some] <;> rfl) | (simp [*, errW_none, errW_some] <;> rfl), by repeat (first | (with_reducible first | exact HB.out | apply below_alloc | apply pw_below_drewN | apply below_drew1 | refine below_set ?_ GE709.out) | exact HB.out)⟩
           ·
            replace c25 := Bool.eq_false_iff.mpr c25;subst c25
            have H1 : ((sched_within.f a0_6 0 4).bind fun t716 => (if t716 = true then ((sched_within.f a0_7 0 30).bind fun t717 => (if t717 = true then ((cal_Check.f a0_8 l0_9).bind fun bt718 => (some bt718.1)) else (some 80))) else (some 80))) = some r := by rw [if_neg (show ¬ (false = true) by decide)] at H; exact H
            clear H;have H := H1;clear H1;replace H := Option.bind_eq_some_iff.mp H
            obtain ⟨t716, A260, H⟩ := H
            replace H : (if t716 = true then ((sched_within.f a0_7 0 30).bind fun t717 => (if t717 = true then ((cal_Check.f a0_8 l0_9).bind fun bt718 => (some bt718.1)) else (some 80))) else (some 80)) = some r := H
            have A26 := Aside0.mk A260;clear A260
            by_cases c27 : t716 = true
            ·
             subst c27
             have H1 : ((sched_within.f a0_7 0 30).bind fun t717 => (if t717 = true then ((cal_Check.f a0_8 l0_9).bind fun bt718 => (some bt718.1)) else (some 80))) = some r := by rw [if_pos rfl] at H; exact H
             clear H;have H := H1;clear H1;replace H := Option.bind_eq_some_iff.mp H
             obtain ⟨t717, A280, H⟩ := H
             replace H : (if t717 = true then ((cal_Check.f a0_8 l0_9).bind fun bt718 => (some bt718.1)) else (some 80)) = some r := H
             have A28 := Aside0.mk A280;clear A280
             by_cases c29 : t717 = true
             ·
              subst c29
              have H1 : ((cal_Check.f a0_8 l0_9).bind fun bt718 => (some bt718.1)) = some r := by rw [if_pos rfl] at H; exact H
              clear H;have H := H1;clear H1;replace H := Option.bind_eq_some_iff.mp H
              obtain ⟨⟨t718, t719⟩, A300, H⟩ := H
              replace H : (some t718) = some r := H
              have A30 := Aside0.mk A300;clear A300
              obtain rfl := Option.some.inj H
              have hcz31_0 : wc.cell? ⟨gb709, 0, none⟩ = some (.int .i64 a0_0) := (blk_cell BK709.out 0).trans rfl
              have hcz31_1 : wc.cell? ⟨gb709, 1, none⟩ = some (.int .i64 a0_1) := (blk_cell BK709.out 1).trans rfl
              have hcz31_2 : wc.cell? ⟨gb709, 2, none⟩ = some (.int .i64 a0_2) := (blk_cell BK709.out 2).trans rfl
              have hcz31_3 : wc.cell? ⟨gb709, 3, none⟩ = some (.int .i64 a0_3) := (blk_cell BK709.out 3).trans rfl
              have hcz31_4 : wc.cell? ⟨gb709, 4, none⟩ = some (.int .i64 a0_4) := (blk_cell BK709.out 4).trans rfl
              have hcz31_5 : wc.cell? ⟨gb709, 5, none⟩ = some (.int .i64 a0_5) := (blk_cell BK709.out 5).trans rfl
              have hcz31_6 : wc.cell? ⟨gb709, 6, none⟩ = some (.int .i64 a0_6) := (blk_cell BK709.out 6).trans rfl
              have hcz31_7 : wc.cell? ⟨gb709, 7, none⟩ = some (.int .i64 a0_7) := (blk_cell BK709.out 7).trans rfl
              have hcz31_8 : wc.cell? ⟨gb709, 8, none⟩ = some (.int .i64 a0_8) := (blk_cell BK709.out 8).trans rfl
              have hcz31_9 : wc.cell? ⟨gb709, 9, none⟩ = some (.slice A0_9 l0_9.length c0_9) := (blk_cell BK709.out 9).trans rfl
              have hfz31_0 := blk_frozen BK709.out 0;have hfz31_1 := blk_frozen BK709.out 1;have hfz31_2 := blk_frozen BK709.out 2;have hfz31_3 := blk_frozen BK709.out 3;have hfz31_4 := blk_frozen BK709.out 4;have hfz31_5 := blk_frozen BK709.out 5;have hfz31_6 := blk_frozen BK709.out 6;have hfz31_7 := blk_frozen BK709.out 7;have hfz31_8 := blk_frozen BK709.out 8;have hfz31_9 := blk_frozen BK709.out 9
              go_wp2_with (first | ((with_reducible refine gate_callee (f := 91) rfl ?_); refine goesL_ (some 48) rfl rfl Try.func91 (by kernel_rfl) rfl #[.int .i64 a0_6, .int .i64 0, .int .i64 4] rfl (by (try simp only [List.map_toArray, List.map_cons, List.map_nil]); first | done | rfl | (simp only [List.length_drop, List.length_take]; rfl)) ?_; (with_reducible refine (sched_within.calls a0_6 0 4 true _ A26.out).mono ?_); rintro e w' ⟨rfl, ⟨nd, rfl⟩⟩; refine ⟨_, rfl, ?_⟩) | ((with_reducible refine gate_callee (f := 91) rfl ?_); refine goesL_ (some 52) rfl rfl Try.func91 (by kernel_rfl) rfl #[.int .i64 a0_7, .int .i64 0, .int .i64 30] rfl (by (try simp only [List.map_toArray, List.map_cons, List.map_nil]); first | done | rfl | (simp only [List.length_drop, List.length_take]; rfl)) ?_; (with_reducible refine (sched_within.calls a0_7 0 30 true _ A28.out).mono ?_); rintro e w' ⟨rfl, ⟨nd, rfl⟩⟩; refine ⟨_, rfl, ?_⟩) | ((with_reducible refine gate_callee (f := 44) rfl ?_); refine goesL_ (some 57) rfl rfl Try.func44 (by kernel_rfl) rfl #[.agg #[.int .i64 a0_8, .slice A0_9 l0_9.length c0_9]] rfl (by (try simp only [List.map_toArray, List.map_cons, List.map_nil]); first | done | rfl | (simp only [List.length_drop, List.length_take]; rfl)) ?_; (with_reducible refine (cal_Check.calls a0_8 _ _ l0_9 t718 t719 _ ?side1 ?side2 A30.out).mono ?_); (case side1 => repeat (first | exact (Kd.C_below HR0_9.out (by repeat (first | (with_reducible first | exact HB.out | apply below_alloc | apply pw_below_drewN | apply below_drew1 | refine below_set ?_ GE709.out) | exact HB.out))) | (with_reducible refine Kd.C_alloc ?_ _) | (with_reducible refine Kd.C_drewN ?_ _) | (with_reducible refine Kd.C_drew ?_))); (case side2 => exact HC0_9.out); rintro e w32 ⟨rfl, hb⟩; refine ⟨_, rfl, ?_⟩; have n0_ := Aside0.mk (blk_below (g := gb709) (o := .cells #[.int .i64 a0_0, .int .i64 a0_1, .int .i64 a0_2, .int .i64 a0_3, .int .i64 a0_4, .int .i64 a0_5, .int .i64 a0_6, .int .i64 a0_7, .int .i64 a0_8, .slice A0_9 l0_9.length c0_9] 66 (0, 0)) (by (with_reducible repeat (first | refine blk_drewN ?_ _ | refine blk_drew ?_ | refine blk_alloc ?_ _)); exact BK709.out) hb); have n1_ := Aside0.mk (below_step (by repeat (first | (with_reducible first | exact HB.out | apply below_alloc | apply pw_below_drewN | apply below_drew1 | refine below_set ?_ GE709.out) | exact HB.out)) hb); clear BK709; clear HB; have BK709 := n0_; have HB := n1_; clear n0_ n1_; (try clear hb); (try clear hb2); (try clear hk); (try clear hi)))
              go_ret
              exact ⟨by first | rfl | (simp [errW_none, errW_some] <;> rfl) | (simp [*, errW_none, errW_some] <;> rfl), by repeat (first | (with_reducible first | exact HB.out | apply below_alloc | apply pw_below_drewN | apply below_drew1 | refine below_set ?_ GE709.out) | exact HB.out)⟩
             ·
              replace c29 := Bool.eq_false_iff.mpr c29;subst c29
              have H1 : (some 80) = some r := by rw [if_neg (show ¬ (false = true) by decide)] at H; exact H
              clear H;have H := H1;clear H1
              obtain rfl := Option.some.inj H
              have hcz33_0 : wc.cell? ⟨gb709, 0, none⟩ = some (.int .i64 a0_0) := (blk_cell BK709.out 0).trans rfl
              have hcz33_1 : wc.cell? ⟨gb709, 1, none⟩ = some (.int .i64 a0_1) := (blk_cell BK709.out 1).trans rfl
              have hcz33_2 : wc.cell? ⟨gb709, 2, none⟩ = some (.int .i64 a0_2) := (blk_cell BK709.out 2).trans rfl
              have hcz33_3 : wc.cell? ⟨gb709, 3, none⟩ = some (.int .i64 a0_3) := (blk_cell BK709.out 3).trans rfl
              have hcz33_4 : wc.cell? ⟨gb709, 4, none⟩ = some (.int .i64 a0_4) := (blk_cell BK709.out 4).trans rfl
              have hcz33_5 : wc.cell? ⟨gb709, 5, none⟩ = some (.int .i64 a0_5) := (blk_cell BK709.out 5).trans rfl
              have hcz33_6 : wc.cell? ⟨gb709, 6, none⟩ = some (.int .i64 a0_6) := (blk_cell BK709.out 6).trans rfl
              have hcz33_7 : wc.cell? ⟨gb709, 7, none⟩ = some (.int .i64 a0_7) := (blk_cell BK709.out 7).trans rfl
              have hcz33_8 : wc.cell? ⟨gb709, 8, none⟩ = some (.int .i64 a0_8) := (blk_cell BK709.out 8).trans rfl
              have hcz33_9 : wc.cell? ⟨gb709, 9, none⟩ = some (.slice A0_9 l0_9.length c0_9) := (blk_cell BK709.out 9).trans rfl
              have hfz33_0 := blk_frozen BK709.out 0;have hfz33_1 := blk_frozen BK709.out 1;have hfz33_2 := blk_frozen BK709.out 2;have hfz33_3 := blk_frozen BK709.out 3;have hfz33_4 := blk_frozen BK709.out 4;have hfz33_5 := blk_frozen BK709.out 5;have hfz33_6 := blk_frozen BK709.out 6;have hfz33_7 := blk_frozen BK709.out 7;have hfz33_8 := blk_frozen BK709.out 8;have hfz33_9 := blk_frozen BK709.out 9
              go_wp2_with (first | ((with_reducible refine gate_callee (f := 91) rfl ?_); refine goesL_ (some 48) rfl rfl Try.func91 (by kernel_rfl) rfl #[.int .i64 a0_6, .int .i64 0, .int .i64 4] rfl (by (try simp only [List.map_toArray, List.map_cons, List.map_nil]); first | done | rfl | (simp only [List.length_drop, List.length_take]; rfl)) ?_; (with_reducible refine (sched_within.calls a0_6 0 4 true _ A26.out).mono ?_); rintro e w' ⟨rfl, ⟨nd, rfl⟩⟩; refine ⟨_, rfl, ?_⟩) | ((with_reducible refine gate_callee (f := 91) rfl ?_); refine goesL_ (some 52) rfl rfl Try.func91 (by kernel_rfl) rfl #[.int .i64 a0_7, .int .i64 0, .int .i64 30] rfl (by (try simp only [List.map_toArray, List.map_cons, List.map_nil]); first | done | rfl | (simp only [List.length_drop, List.length_take]; rfl)) ?_; (with_reducible refine (sched_within.calls a0_7 0 30 false _ A28.out).mono ?_); rintro e w' ⟨rfl, ⟨nd, rfl⟩⟩; refine ⟨_, rfl, ?_⟩))
              go_ret
              exact ⟨by first | rfl | (simp [errW_none, errW_some] <;> rfl) | (simp [*, errW_none, errW_some] <;> rfl), by repeat (first | (with_reducible first | exact HB.out | apply below_alloc | apply pw_below_drewN | apply below_drew1 | refine below_set ?_ GE709.out) | exact HB.out)⟩
            ·
             replace c27 := Bool.eq_false_iff.mpr c27;subst c27
             have H1 : (some 80) = some r := by rw [if_neg (show ¬ (false = true) by decide)] at H; exact H
             clear H;have H := H1;clear H1
             obtain rfl := Option.some.inj H
             have hcz34_0 : wc.cell? ⟨gb709, 0, none⟩ = some (.int .i64 a0_0) := (blk_cell BK709.out 0).trans rfl
             have hcz34_1 : wc.cell? ⟨gb709, 1, none⟩ = some (.int .i64 a0_1) := (blk_cell BK709.out 1).trans rfl
             have hcz34_2 : wc.cell? ⟨gb709, 2, none⟩ = some (.int .i64 a0_2) := (blk_cell BK709.out 2).trans rfl
             have hcz34_3 : wc.cell? ⟨gb709, 3, none⟩ = some (.int .i64 a0_3) := (blk_cell BK709.out 3).trans rfl
             have hcz34_4 : wc.cell? ⟨gb709, 4, none⟩ = some (.int .i64 a0_4) := (blk_cell BK709.out 4).trans rfl
             have hcz34_5 : wc.cell? ⟨gb709, 5, none⟩ = some (.int .i64 a0_5) := (blk_cell BK709.out 5).trans rfl
             have hcz34_6 : wc.cell? ⟨gb709, 6, none⟩ = some (.int .i64 a0_6) := (blk_cell BK709.out 6).trans rfl
             have hcz34_7 : wc.cell? ⟨gb709, 7, none⟩ = some (.int .i64 a0_7) := (blk_cell BK709.out 7).trans rfl
             have hcz34_8 : wc.cell? ⟨gb709, 8, none⟩ = some (.int .i64 a0_8) := (blk_cell BK709.out 8).trans rfl
             have hcz34_9 : wc.cell? ⟨gb709, 9, none⟩ = some (.slice A0_9 l0_9.length c0_9) := (blk_cell BK709.out 9).trans rfl
             have hfz34_0 := blk_frozen BK709.out 0;have hfz34_1 := blk_frozen BK709.out 1;have hfz34_2 := blk_frozen BK709.out 2;have hfz34_3 := blk_frozen BK709.out 3;have hfz34_4 := blk_frozen BK709.out 4;have hfz34_5 := blk_frozen BK709.out 5;have hfz34_6 := blk_frozen BK709.out 6;have hfz34_7 := blk_frozen BK709.out 7;have hfz34_8 := blk_frozen BK709.out 8;have hfz34_9 := blk_frozen BK709.out 9
             go_wp2_with (first | ((with_reducible refine gate_callee (f := 91) rfl ?_); refine goesL_ (some 48) rfl rfl Try.func91 (by kernel_rfl) rfl #[.int .i64 a0_6, .int .i64 0, .int .i64 4] rfl (by (try simp only [List.map_toArray, List.map_cons, List.map_nil]); first | done | rfl | (simp only [List.length_drop, List.length_take]; rfl)) ?_; (with_reducible refine (sched_within.calls a0_6 0 4 false _ A26.out).mono ?_); rintro e w' ⟨rfl, ⟨nd, rfl⟩⟩; refine ⟨_, rfl, ?_⟩))
             go_ret
             exact ⟨by first | rfl | (simp [errW_none, errW_some] <;> rfl) | (simp [*, errW_none, errW_some] <;> rfl), by repeat (first | (with_reducible first | exact HB.out | apply below_alloc | apply pw_below_drewN | apply below_drew1 | refine below_set ?_ GE709.out) | exact HB.out)⟩
        ·
         replace c19 := Bool.eq_false_iff.mpr c19;subst c19
         have H1 : (some 80) = some r := by rw [if_neg (show ¬ (false = true) by decide)] at H; exact H
         clear H;have H := H1;clear H1
         obtain rfl := Option.some.inj H
         have hcz35_0 : wc.cell? ⟨gb709, 0, none⟩ = some (.int .i64 a0_0) := (blk_cell BK709.out 0).trans rfl
         have hcz35_1 : wc.cell? ⟨gb709, 1, none⟩ = some (.int .i64 a0_1) := (blk_cell BK709.out 1).trans rfl
         have hcz35_2 : wc.cell? ⟨gb709, 2, none⟩ = some (.int .i64 a0_2) := (blk_cell BK709.out 2).trans rfl
         have hcz35_3 : wc.cell? ⟨gb709, 3, none⟩ = some (.int .i64 a0_3) := (blk_cell BK709.out 3).trans rfl
         have hcz35_4 : wc.cell? ⟨gb709, 4, none⟩ = some (.int .i64 a0_4) := (blk_cell BK709.out 4).trans rfl
         have hcz35_5 : wc.cell? ⟨gb709, 5, none⟩ = some (.int .i64 a0_5) := (blk_cell BK709.out 5).trans rfl
         have hcz35_6 : wc.cell? ⟨gb709, 6, none⟩ = some (.int .i64 a0_6) := (blk_cell BK709.out 6).trans rfl
         have hcz35_7 : wc.cell? ⟨gb709, 7, none⟩ = some (.int .i64 a0_7) := (blk_cell BK709.out 7).trans rfl
         have hcz35_8 : wc.cell? ⟨gb709, 8, none⟩ = some (.int .i64 a0_8) := (blk_cell BK709.out 8).trans rfl
         have hcz35_9 : wc.cell? ⟨gb709, 9, none⟩ = some (.slice A0_9 l0_9.length c0_9) := (blk_cell BK709.out 9).trans rfl
         have hfz35_0 := blk_frozen BK709.out 0;have hfz35_1 := blk_frozen BK709.out 1;have hfz35_2 := blk_frozen BK709.out 2;have hfz35_3 := blk_frozen BK709.out 3;have hfz35_4 := blk_frozen BK709.out 4;have hfz35_5 := blk_frozen BK709.out 5;have hfz35_6 := blk_frozen BK709.out 6;have hfz35_7 := blk_frozen BK709.out 7;have hfz35_8 := blk_frozen BK709.out 8;have hfz35_9 := blk_frozen BK709.out 9
         go_wp2_with (first | ((with_reducible refine gate_callee (f := 91) rfl ?_); refine goesL_ (some 24) rfl rfl Try.func91 (by kernel_rfl) rfl #[.int .i64 a0_2, .int .i64 1, .int .i64 1200] rfl (by (try simp only [List.map_toArray, List.map_cons, List.map_nil]); first | done | rfl | (simp only [List.length_drop, List.length_take]; rfl)) ?_; (with_reducible refine (sched_within.calls a0_2 1 1200 true _ A12.out).mono ?_); rintro e w' ⟨rfl, ⟨nd, rfl⟩⟩; refine ⟨_, rfl, ?_⟩) | ((with_reducible refine gate_callee (f := 91) rfl ?_); refine goesL_ (some 28) rfl rfl Try.func91 (by kernel_rfl) rfl #[.int .i64 a0_3, .int .i64 1, .int .i64 4] rfl (by (try simp only [List.map_toArray, List.map_cons, List.map_nil]); first | done | rfl | (simp only [List.length_drop, List.length_take]; rfl)) ?_; (with_reducible refine (sched_within.calls a0_3 1 4 true _ A14.out).mono ?_); rintro e w' ⟨rfl, ⟨nd, rfl⟩⟩; refine ⟨_, rfl, ?_⟩) | ((with_reducible refine gate_callee (f := 91) rfl ?_); refine goesL_ (some 32) rfl rfl Try.func91 (by kernel_rfl) rfl #[.int .i64 a0_4, .int .i64 1, .int .i64 4] rfl (by (try simp only [List.map_toArray, List.map_cons, List.map_nil]); first | done | rfl | (simp only [List.length_drop, List.length_take]; rfl)) ?_; (with_reducible refine (sched_within.calls a0_4 1 4 true _ A16.out).mono ?_); rintro e w' ⟨rfl, ⟨nd, rfl⟩⟩; refine ⟨_, rfl, ?_⟩) | ((with_reducible refine gate_callee (f := 91) rfl ?_); refine goesL_ (some 36) rfl rfl Try.func91 (by kernel_rfl) rfl #[.int .i64 a0_5, .int .i64 0, .int .i64 2] rfl (by (try simp only [List.map_toArray, List.map_cons, List.map_nil]); first | done | rfl | (simp only [List.length_drop, List.length_take]; rfl)) ?_; (with_reducible refine (sched_within.calls a0_5 0 2 false _ A18.out).mono ?_); rintro e w' ⟨rfl, ⟨nd, rfl⟩⟩; refine ⟨_, rfl, ?_⟩))
         go_ret
         exact ⟨by first | rfl | (simp [errW_none, errW_some] <;> rfl) | (simp [*, errW_none, errW_some] <;> rfl), by repeat (first | (with_reducible first | exact HB.out | apply below_alloc | apply pw_below_drewN | apply below_drew1 | refine below_set ?_ GE709.out) | exact HB.out)⟩
       ·
        replace c17 := Bool.eq_false_iff.mpr c17;subst c17
        have H1 : (some 80) = some r := by rw [if_neg (show ¬ (false = true) by decide)] at H; exact H
        clear H;have H := H1;clear H1
        obtain rfl := Option.some.inj H
        have hcz36_0 : wc.cell? ⟨gb709, 0, none⟩ = some (.int .i64 a0_0) := (blk_cell BK709.out 0).trans rfl
        have hcz36_1 : wc.cell? ⟨gb709, 1, none⟩ = some (.int .i64 a0_1) := (blk_cell BK709.out 1).trans rfl
        have hcz36_2 : wc.cell? ⟨gb709, 2, none⟩ = some (.int .i64 a0_2) := (blk_cell BK709.out 2).trans rfl
        have hcz36_3 : wc.cell? ⟨gb709, 3, none⟩ = some (.int .i64 a0_3) := (blk_cell BK709.out 3).trans rfl
        have hcz36_4 : wc.cell? ⟨gb709, 4, none⟩ = some (.int .i64 a0_4) := (blk_cell BK709.out 4).trans rfl
        have hcz36_5 : wc.cell? ⟨gb709, 5, none⟩ = some (.int .i64 a0_5) := (blk_cell BK709.out 5).trans rfl
        have hcz36_6 : wc.cell? ⟨gb709, 6, none⟩ = some (.int .i64 a0_6) := (blk_cell BK709.out 6).trans rfl
        have hcz36_7 : wc.cell? ⟨gb709, 7, none⟩ = some (.int .i64 a0_7) := (blk_cell BK709.out 7).trans rfl
        have hcz36_8 : wc.cell? ⟨gb709, 8, none⟩ = some (.int .i64 a0_8) := (blk_cell BK709.out 8).trans rfl
        have hcz36_9 : wc.cell? ⟨gb709, 9, none⟩ = some (.slice A0_9 l0_9.length c0_9) := (blk_cell BK709.out 9).trans rfl
        have hfz36_0 := blk_frozen BK709.out 0;have hfz36_1 := blk_frozen BK709.out 1;have hfz36_2 := blk_frozen BK709.out 2;have hfz36_3 := blk_frozen BK709.out 3;have hfz36_4 := blk_frozen BK709.out 4;have hfz36_5 := blk_frozen BK709.out 5;have hfz36_6 := blk_frozen BK709.out 6;have hfz36_7 := blk_frozen BK709.out 7;have hfz36_8 := blk_frozen BK709.out 8;have hfz36_9 := blk_frozen BK709.out 9
        go_wp2_with (first | ((with_reducible refine gate_callee (f := 91) rfl ?_); refine goesL_ (some 24) rfl rfl Try.func91 (by kernel_rfl) rfl #[.int .i64 a0_2, .int .i64 1, .int .i64 1200] rfl (by (try simp only [List.map_toArray, List.map_cons, List.map_nil]); first | done | rfl | (simp only [List.length_drop, List.length_take]; rfl)) ?_; (with_reducible refine (sched_within.calls a0_2 1 1200 true _ A12.out).mono ?_); rintro e w' ⟨rfl, ⟨nd, rfl⟩⟩; refine ⟨_, rfl, ?_⟩) | ((with_reducible refine gate_callee (f := 91) rfl ?_); refine goesL_ (some 28) rfl rfl Try.func91 (by kernel_rfl) rfl #[.int .i64 a0_3, .int .i64 1, .int .i64 4] rfl (by (try simp only [List.map_toArray, List.map_cons, List.map_nil]); first | done | rfl | (simp only [List.length_drop, List.length_take]; rfl)) ?_; (with_reducible refine (sched_within.calls a0_3 1 4 true _ A14.out).mono ?_); rintro e w' ⟨rfl, ⟨nd, rfl⟩⟩; refine ⟨_, rfl, ?_⟩) | ((with_reducible refine gate_callee (f := 91) rfl ?_); refine goesL_ (some 32) rfl rfl Try.func91 (by kernel_rfl) rfl #[.int .i64 a0_4, .int .i64 1, .int .i64 4] rfl (by (try simp only [List.map_toArray, List.map_cons, List.map_nil]); first | done | rfl | (simp only [List.length_drop, List.length_take]; rfl)) ?_; (with_reducible refine (sched_within.calls a0_4 1 4 false _ A16.out).mono ?_); rintro e w' ⟨rfl, ⟨nd, rfl⟩⟩; refine ⟨_, rfl, ?_⟩))
        go_ret
        exact ⟨by first | rfl | (simp [errW_none, errW_some] <;> rfl) | (simp [*, errW_none, errW_some] <;> rfl), by repeat (first | (with_reducible first | exact HB.out | apply below_alloc | apply pw_below_drewN | apply below_drew1 | refine below_set ?_ GE709.out) | exact HB.out)⟩
      ·
       replace c15 := Bool.eq_false_iff.mpr c15;subst c15
       have H1 : (some 80) = some r := by rw [if_neg (show ¬ (false = true) by decide)] at H; exact H
       clear H;have H := H1;clear H1
       obtain rfl := Option.some.inj H
       have hcz37_0 : wc.cell? ⟨gb709, 0, none⟩ = some (.int .i64 a0_0) := (blk_cell BK709.out 0).trans rfl
       have hcz37_1 : wc.cell? ⟨gb709, 1, none⟩ = some (.int .i64 a0_1) := (blk_cell BK709.out 1).trans rfl
       have hcz37_2 : wc.cell? ⟨gb709, 2, none⟩ = some (.int .i64 a0_2) := (blk_cell BK709.out 2).trans rfl
       have hcz37_3 : wc.cell? ⟨gb709, 3, none⟩ = some (.int .i64 a0_3) := (blk_cell BK709.out 3).trans rfl
       have hcz37_4 : wc.cell? ⟨gb709, 4, none⟩ = some (.int .i64 a0_4) := (blk_cell BK709.out 4).trans rfl
       have hcz37_5 : wc.cell? ⟨gb709, 5, none⟩ = some (.int .i64 a0_5) := (blk_cell BK709.out 5).trans rfl
       have hcz37_6 : wc.cell? ⟨gb709, 6, none⟩ = some (.int .i64 a0_6) := (blk_cell BK709.out 6).trans rfl
       have hcz37_7 : wc.cell? ⟨gb709, 7, none⟩ = some (.int .i64 a0_7) := (blk_cell BK709.out 7).trans rfl
       have hcz37_8 : wc.cell? ⟨gb709, 8, none⟩ = some (.int .i64 a0_8) := (blk_cell BK709.out 8).trans rfl
       have hcz37_9 : wc.cell? ⟨gb709, 9, none⟩ = some (.slice A0_9 l0_9.length c0_9) := (blk_cell BK709.out 9).trans rfl
       have hfz37_0 := blk_frozen BK709.out 0;have hfz37_1 := blk_frozen BK709.out 1;have hfz37_2 := blk_frozen BK709.out 2;have hfz37_3 := blk_frozen BK709.out 3;have hfz37_4 := blk_frozen BK709.out 4;have hfz37_5 := blk_frozen BK709.out 5;have hfz37_6 := blk_frozen BK709.out 6;have hfz37_7 := blk_frozen BK709.out 7;have hfz37_8 := blk_frozen BK709.out 8;have hfz37_9 := blk_frozen BK709.out 9
       go_wp2_with (first | ((with_reducible refine gate_callee (f := 91) rfl ?_); refine goesL_ (some 24) rfl rfl Try.func91 (by kernel_rfl) rfl #[.int .i64 a0_2, .int .i64 1, .int .i64 1200] rfl (by (try simp only [List.map_toArray, List.map_cons, List.map_nil]); first | done | rfl | (simp only [List.length_drop, List.length_take]; rfl)) ?_; (with_reducible refine (sched_within.calls a0_2 1 1200 true _ A12.out).mono ?_); rintro e w' ⟨rfl, ⟨nd, rfl⟩⟩; refine ⟨_, rfl, ?_⟩) | ((with_reducible refine gate_callee (f := 91) rfl ?_); refine goesL_ (some 28) rfl rfl Try.func91 (by kernel_rfl) rfl #[.int .i64 a0_3, .int .i64 1, .int .i64 4] rfl (by (try simp only [List.map_toArray, List.map_cons, List.map_nil]); first | done | rfl | (simp only [List.length_drop, List.length_take]; rfl)) ?_; (with_reducible refine (sched_within.calls a0_3 1 4 false _ A14.out).mono ?_); rintro e w' ⟨rfl, ⟨nd, rfl⟩⟩; refine ⟨_, rfl, ?_⟩))
       go_ret
       exact ⟨by first | rfl | (simp [errW_none, errW_some] <;> rfl) | (simp [*, errW_none, errW_some] <;> rfl), by repeat (first | (with_reducible first | exact HB.out | apply below_alloc | apply pw_below_drewN | apply below_drew1 | refine below_set ?_ GE709.out) | exact HB.out)⟩
     ·
      replace c13 := Bool.eq_false_iff.mpr c13;subst c13
      have H1 : (some 80) = some r := by rw [if_neg (show ¬ (false = true) by decide)] at H; exact H
      clear H;have H := H1;clear H1
      obtain rfl := Option.some.inj H
      have hcz38_0 : wc.cell? ⟨gb709, 0, none⟩ = some (.int .i64 a0_0) := (blk_cell BK709.out 0).trans rfl
      have hcz38_1 : wc.cell? ⟨gb709, 1, none⟩ = some (.int .i64 a0_1) := (blk_cell BK709.out 1).trans rfl
      have hcz38_2 : wc.cell? ⟨gb709, 2, none⟩ = some (.int .i64 a0_2) := (blk_cell BK709.out 2).trans rfl
      have hcz38_3 : wc.cell? ⟨gb709, 3, none⟩ = some (.int .i64 a0_3) := (blk_cell BK709.out 3).trans rfl
      have hcz38_4 : wc.cell? ⟨gb709, 4, none⟩ = some (.int .i64 a0_4) := (blk_cell BK709.out 4).trans rfl
      have hcz38_5 : wc.cell? ⟨gb709, 5, none⟩ = some (.int .i64 a0_5) := (blk_cell BK709.out 5).trans rfl
      have hcz38_6 : wc.cell? ⟨gb709, 6, none⟩ = some (.int .i64 a0_6) := (blk_cell BK709.out 6).trans rfl
      have hcz38_7 : wc.cell? ⟨gb709, 7, none⟩ = some (.int .i64 a0_7) := (blk_cell BK709.out 7).trans rfl
      have hcz38_8 : wc.cell? ⟨gb709, 8, none⟩ = some (.int .i64 a0_8) := (blk_cell BK709.out 8).trans rfl
      have hcz38_9 : wc.cell? ⟨gb709, 9, none⟩ = some (.slice A0_9 l0_9.length c0_9) := (blk_cell BK709.out 9).trans rfl
      have hfz38_0 := blk_frozen BK709.out 0;have hfz38_1 := blk_frozen BK709.out 1;have hfz38_2 := blk_frozen BK709.out 2;have hfz38_3 := blk_frozen BK709.out 3;have hfz38_4 := blk_frozen BK709.out 4;have hfz38_5 := blk_frozen BK709.out 5;have hfz38_6 := blk_frozen BK709.out 6;have hfz38_7 := blk_frozen BK709.out 7;have hfz38_8 := blk_frozen BK709.out 8;have hfz38_9 := blk_frozen BK709.out 9
      go_wp2_with (first | ((with_reducible refine gate_callee (f := 91) rfl ?_); refine goesL_ (some 24) rfl rfl Try.func91 (by kernel_rfl) rfl #[.int .i64 a0_2, .int .i64 1, .int .i64 1200] rfl (by (try simp only [List.map_toArray, List.map_cons, List.map_nil]); first | done | rfl | (simp only [List.length_drop, List.length_take]; rfl)) ?_; (with_reducible refine (sched_within.calls a0_2 1 1200 false _ A12.out).mono ?_); rintro e w' ⟨rfl, ⟨nd, rfl⟩⟩; refine ⟨_, rfl, ?_⟩))
      go_ret
      exact ⟨by first | rfl | (simp [errW_none, errW_some] <;> rfl) | (simp [*, errW_none, errW_some] <;> rfl), by repeat (first | (with_reducible first | exact HB.out | apply below_alloc | apply pw_below_drewN | apply below_drew1 | refine below_set ?_ GE709.out) | exact HB.out)⟩
end Go.Proofs.Ytoncignjcgjhhaa.Q
