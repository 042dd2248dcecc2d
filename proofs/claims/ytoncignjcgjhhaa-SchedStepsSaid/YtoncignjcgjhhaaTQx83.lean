/- Contracts of functions of the seat's program: each Go function's Lean function and its walk, written by a program of this session over the kit's print. Not trusted: Lean checks it. -/
import Derived.Test.YtoncignjcgjhhaaTGA
import Derived.Test.YtoncignjcgjhhaaTGF
import Derived.Test.YtoncignjcgjhhaaTGG
set_option linter.unusedVariables false
set_option linter.unusedSimpArgs false
namespace Go.Proofs.Ytoncignjcgjhhaa.Q
open Go.RowKit Go.Proofs.YtoncignjcgjhhaaW.PrintWords Go.Proofs.YtoncignjcgjhhaaW.PrintLast Go.Proofs.YtoncignjcgjhhaaW.PrintMore
attribute [local go_sem] max2_int min2_int max_two min_two max_three min_three max_four min_four   -- for this text's walks alone
def sched_Point.j0 : Nat → Int → Int → Bool → Int → Int → Int → Int → Int → Int → Int → Int → Int → List (S63) → Option (Int × Bool)
  | 0, _, _, _, _, _, _, _, _, _, _, _, _, _ => none
  | k + 1, x1, x2, x17, x994000, x994001, x994002, x994003, x994004, x994005, x994006, x994007, x994008, x994009 => if x17 = true then (some (0, false)) else ((sched_point.f k x994000 x994001 x994002 x994003 x994004 x994005 x994006 x994007 x994008 x994009 x1 x2).bind fun bt996 => (if bt996.2 = true then (some (bt996.1, true)) else (some (0, false))))
def sched_Point.f (k : Nat) (a0_0 : Int) (a0_1 : Int) (a0_2 : Int) (a0_3 : Int) (a0_4 : Int) (a0_5 : Int) (a0_6 : Int) (a0_7 : Int) (a0_8 : Int) (l0_9 : List (S63)) (a1 : Int) (a2 : Int) : Option (Int × Bool) := (sched_Check.f k a0_0 a0_1 a0_2 a0_3 a0_4 a0_5 a0_6 a0_7 a0_8 l0_9).bind fun t994 => (if t994 = 0 then ((sched_is.f a1).bind fun t995 => (sched_Point.j0 k a1 a2 (!t995) a0_0 a0_1 a0_2 a0_3 a0_4 a0_5 a0_6 a0_7 a0_8 l0_9)) else (sched_Point.j0 k a1 a2 true a0_0 a0_1 a0_2 a0_3 a0_4 a0_5 a0_6 a0_7 a0_8 l0_9))
theorem sched_Point.mono_l : ∀ k, (∀ y0 y1 y2 y3 y4 y5 y6 y7 y8 y9 y10 y11 y12, LeO (sched_Point.j0 k y0 y1 y2 y3 y4 y5 y6 y7 y8 y9 y10 y11 y12) (sched_Point.j0 (k + 1) y0 y1 y2 y3 y4 y5 y6 y7 y8 y9 y10 y11 y12))
 | 0 => fun _ _ _ _ _ _ _ _ _ _ _ _ _ r h => by simp [sched_Point.j0] at h
 | k + 1 => by
  have ih0 := sched_Point.mono_l k
  ·
   intro y0 y1 y2 y3 y4 y5 y6 y7 y8 y9 y10 y11 y12
   unfold sched_Point.j0
   repeat' first
   | (with_reducible exact ih0 _ _ _ _ _ _ _ _ _ _ _ _ _)
   | (with_reducible exact sched_Check.mono _ _ _ _ _ _ _ _ _ _ _)
   | (with_reducible exact sched_point.mono _ _ _ _ _ _ _ _ _ _ _ _ _)
   | (with_reducible exact LeO.refl _)
   | (with_reducible exact LeO.none _)
   | (with_reducible refine LeO.ite ?_ ?_)
   | (with_reducible refine LeO.bind ?_ (fun _ => ?_))
   | exact ih0 _ _ _ _ _ _ _ _ _ _ _ _ _
   | exact sched_Check.mono _ _ _ _ _ _ _ _ _ _ _
   | exact sched_point.mono _ _ _ _ _ _ _ _ _ _ _ _ _
   | exact LeO.none _
   | refine LeO.ite ?_ ?_
   | refine LeO.bind ?_ (fun _ => ?_)
theorem sched_Point.mono : ∀ a0 a1 a2 a3 a4 a5 a6 a7 a8 a9 a10 a11 k, LeO (sched_Point.f k a0 a1 a2 a3 a4 a5 a6 a7 a8 a9 a10 a11) (sched_Point.f (k + 1) a0 a1 a2 a3 a4 a5 a6 a7 a8 a9 a10 a11) := by
 intro a0 a1 a2 a3 a4 a5 a6 a7 a8 a9 a10 a11 k
 have ih0 := sched_Point.mono_l k
 unfold sched_Point.f
 repeat' first
   | (with_reducible exact ih0 _ _ _ _ _ _ _ _ _ _ _ _ _)
   | (with_reducible exact sched_Check.mono _ _ _ _ _ _ _ _ _ _ _)
   | (with_reducible exact sched_point.mono _ _ _ _ _ _ _ _ _ _ _ _ _)
   | (with_reducible exact LeO.refl _)
   | (with_reducible exact LeO.none _)
   | (with_reducible refine LeO.ite ?_ ?_)
   | (with_reducible refine LeO.bind ?_ (fun _ => ?_))
   | exact ih0 _ _ _ _ _ _ _ _ _ _ _ _ _
   | exact sched_Check.mono _ _ _ _ _ _ _ _ _ _ _
   | exact sched_point.mono _ _ _ _ _ _ _ _ _ _ _ _ _
   | exact LeO.none _
   | refine LeO.ite ?_ ?_
   | refine LeO.bind ?_ (fun _ => ?_)
set_option maxHeartbeats 8000000 in
set_option maxRecDepth 100000 in
theorem sched_Point.calls (k : Nat) (a0_0 : Int) (a0_1 : Int) (a0_2 : Int) (a0_3 : Int) (a0_4 : Int) (a0_5 : Int) (a0_6 : Int) (a0_7 : Int) (a0_8 : Int) (A0_9 : Option Addr) (c0_9 : Nat) (l0_9 : List (S63)) (a1 : Int) (a2 : Int) (r1 : Int) (r2 : Bool) (w : World) (hr0_9 : Kd.C k63 w A0_9 l0_9.length l0_9) (hc0_9 : l0_9.length ≤ c0_9) (h : sched_Point.f k a0_0 a0_1 a0_2 a0_3 a0_4 a0_5 a0_6 a0_7 a0_8 l0_9 a1 a2 = some (r1, r2)) :
  Calls Try.prog 59 #[.agg #[.int .i64 a0_0, .int .i64 a0_1, .int .i64 a0_2, .int .i64 a0_3, .int .i64 a0_4, .int .i64 a0_5, .int .i64 a0_6, .int .i64 a0_7, .int .i64 a0_8, .slice A0_9 l0_9.length c0_9], .int .i64 a1, .int .i64 a2] w fun e w' => e = .returned (.tuple #[.int .i64 r1, .bool r2]) ∧ Below w.heap.size w w' := by
 have hu66 := Try.underlying66;have HR0_9 := Aside0.mk hr0_9;have HC0_9 := Aside0.mk hc0_9;clear hr0_9 hc0_9
 have HB := Aside0.mk (Below.refl w.heap.size w)
 have H : ((sched_Check.f k a0_0 a0_1 a0_2 a0_3 a0_4 a0_5 a0_6 a0_7 a0_8 l0_9).bind fun t994 => (if t994 = 0 then ((sched_is.f a1).bind fun t995 => (sched_Point.j0 k a1 a2 (!t995) a0_0 a0_1 a0_2 a0_3 a0_4 a0_5 a0_6 a0_7 a0_8 l0_9)) else (sched_Point.j0 k a1 a2 true a0_0 a0_1 a0_2 a0_3 a0_4 a0_5 a0_6 a0_7 a0_8 l0_9))) = some (r1, r2) := h
 clear h;have HC4 := Aside0.mk H;clear H
 go_enter Try.func59, Try.ntmps59
 go_upto_region 1 with (first | ((with_reducible refine gate_dst (N := 3) rfl ?_); refine box_event ?hg (N := 3) ?hd (cs := #[.int .i64 a0_0, .int .i64 a0_1, .int .i64 a0_2, .int .i64 a0_3, .int .i64 a0_4, .int .i64 a0_5, .int .i64 a0_6, .int .i64 a0_7, .int .i64 a0_8, .slice A0_9 l0_9.length c0_9]) (t := 66) ?hr ?_; (case hd => rfl); (case hg => rfl); (case hr => first | (go_simp; done) | (go_simp; rfl)); intro gb993 hg w5 hbox hb; have n0_ := Aside0.mk (below_step (by repeat (first | (with_reducible first | exact HB.out | apply below_alloc | apply pw_below_drewN | apply below_drew1) | exact HB.out)) hb); have n1_ := Aside0.mk (hbox); have n2_ := Aside0.mk ((by rw [hg]; exact (below_size (by repeat (first | (with_reducible first | exact HB.out | apply below_alloc | apply pw_below_drewN | apply below_drew1) | exact HB.out))) : w.heap.size ≤ gb993)); have n3_ := Aside0.mk ((by rw [hg]; exact (below_size (by repeat (first | (with_reducible first | exact HB.out | apply below_alloc | apply pw_below_drewN | apply below_drew1) | exact HB.out))) : w.heap.size ≤ gb993)); clear HB; have HB := n0_; have BK993 := n1_; have GW993 := n2_; have GE993 := n3_; clear n0_ n1_ n2_ n3_; clear hb hbox hg))
 (try simp only [Act.put, List.setIfInBounds_toArray, List.set_cons_zero, List.set_cons_succ])
 go_cut [17] (fun v17 wc => ∃ (kq : Nat) (x17_3 : Bool), v17 = .bool x17_3 ∧ Aside0 (sched_Point.j0 kq a1 a2 x17_3 a0_0 a0_1 a0_2 a0_3 a0_4 a0_5 a0_6 a0_7 a0_8 l0_9 = some (r1, r2)) ∧ Aside0 (kq ≤ k) ∧ Aside0 (wc.heap[gb993]? = some (.cells #[.int .i64 a0_0, .int .i64 a0_1, .int .i64 a0_2, .int .i64 a0_3, .int .i64 a0_4, .int .i64 a0_5, .int .i64 a0_6, .int .i64 a0_7, .int .i64 a0_8, (.slice A0_9 l0_9.length c0_9)] 66 (0, 0))) ∧ Aside0 (Below w.heap.size w wc))
 case first =>
  have H := HC4.out;clear HC4;replace H := Option.bind_eq_some_iff.mp H
  obtain ⟨t994, A60, H⟩ := H
  replace H : (if t994 = 0 then ((sched_is.f a1).bind fun t995 => (sched_Point.j0 k a1 a2 (!t995) a0_0 a0_1 a0_2 a0_3 a0_4 a0_5 a0_6 a0_7 a0_8 l0_9)) else (sched_Point.j0 k a1 a2 true a0_0 a0_1 a0_2 a0_3 a0_4 a0_5 a0_6 a0_7 a0_8 l0_9)) = some (r1, r2) := H
  have A6 := Aside0.mk A60;clear A60
  by_cases c7 : t994 = 0
  ·
   rw [if_pos c7] at H
   have c7b0 : (t994 == 0) = true := beq_iff_eq.mpr c7
   have c7b1 : (t994 != 0) = false := bne_eq_false_iff_eq.mpr c7
   clear c7
   (first | rw [c7b0] | (simp only [i64_w, i32_w]; rw [c7b0]) | skip)
   replace H := Option.bind_eq_some_iff.mp H
   obtain ⟨t995, A80, H⟩ := H
   replace H : (sched_Point.j0 k a1 a2 (!t995) a0_0 a0_1 a0_2 a0_3 a0_4 a0_5 a0_6 a0_7 a0_8 l0_9) = some (r1, r2) := H
   have A8 := Aside0.mk A80;clear A80;have H' := Aside0.mk H;clear H
   have hcz9_0 : w5.cell? ⟨gb993, 0, none⟩ = some (.int .i64 a0_0) := (blk_cell BK993.out 0).trans rfl
   have hcz9_1 : w5.cell? ⟨gb993, 1, none⟩ = some (.int .i64 a0_1) := (blk_cell BK993.out 1).trans rfl
   have hcz9_2 : w5.cell? ⟨gb993, 2, none⟩ = some (.int .i64 a0_2) := (blk_cell BK993.out 2).trans rfl
   have hcz9_3 : w5.cell? ⟨gb993, 3, none⟩ = some (.int .i64 a0_3) := (blk_cell BK993.out 3).trans rfl
   have hcz9_4 : w5.cell? ⟨gb993, 4, none⟩ = some (.int .i64 a0_4) := (blk_cell BK993.out 4).trans rfl
   have hcz9_5 : w5.cell? ⟨gb993, 5, none⟩ = some (.int .i64 a0_5) := (blk_cell BK993.out 5).trans rfl
   have hcz9_6 : w5.cell? ⟨gb993, 6, none⟩ = some (.int .i64 a0_6) := (blk_cell BK993.out 6).trans rfl
   have hcz9_7 : w5.cell? ⟨gb993, 7, none⟩ = some (.int .i64 a0_7) := (blk_cell BK993.out 7).trans rfl
   have hcz9_8 : w5.cell? ⟨gb993, 8, none⟩ = some (.int .i64 a0_8) := (blk_cell BK993.out 8).trans rfl
   have hcz9_9 : w5.cell? ⟨gb993, 9, none⟩ = some (.slice A0_9 l0_9.length c0_9) := (blk_cell BK993.out 9).trans rfl
   have hfz9_0 := blk_frozen BK993.out 0;have hfz9_1 := blk_frozen BK993.out 1;have hfz9_2 := blk_frozen BK993.out 2;have hfz9_3 := blk_frozen BK993.out 3;have hfz9_4 := blk_frozen BK993.out 4;have hfz9_5 := blk_frozen BK993.out 5;have hfz9_6 := blk_frozen BK993.out 6;have hfz9_7 := blk_frozen BK993.out 7;have hfz9_8 := blk_frozen BK993.out 8;have hfz9_9 := blk_frozen BK993.out 9
   go_wp2_with (first | ((with_reducible refine gate_callee (f := 57) rfl ?_); refine goesL_ (some 11) rfl rfl Try.func57 (by kernel_rfl) rfl #[.agg #[.int .i64 a0_0, .int .i64 a0_1, .int .i64 a0_2, .int .i64 a0_3, .int .i64 a0_4, .int .i64 a0_5, .int .i64 a0_6, .int .i64 a0_7, .int .i64 a0_8, .slice A0_9 l0_9.length c0_9]] rfl (by (try simp only [List.map_toArray, List.map_cons, List.map_nil]); first | done | rfl | (simp only [List.length_drop, List.length_take]; rfl)) ?_; (with_reducible refine (sched_Check.calls k a0_0 a0_1 a0_2 a0_3 a0_4 a0_5 a0_6 a0_7 a0_8 _ _ l0_9 t994 _ ?side1 ?side2 A6.out).mono ?_); (case side1 => repeat (first | exact (Kd.C_below HR0_9.out HB.out) | (with_reducible refine Kd.C_alloc ?_ _) | (with_reducible refine Kd.C_drewN ?_ _) | (with_reducible refine Kd.C_drew ?_))); (case side2 => exact HC0_9.out); rintro e w10 ⟨rfl, hb⟩; refine ⟨_, rfl, ?_⟩; have n0_ := Aside0.mk (blk_below (g := gb993) (o := .cells #[.int .i64 a0_0, .int .i64 a0_1, .int .i64 a0_2, .int .i64 a0_3, .int .i64 a0_4, .int .i64 a0_5, .int .i64 a0_6, .int .i64 a0_7, .int .i64 a0_8, .slice A0_9 l0_9.length c0_9] 66 (0, 0)) (by (with_reducible repeat (first | refine blk_drewN ?_ _ | refine blk_drew ?_ | refine blk_alloc ?_ _)); exact BK993.out) hb); have n1_ := Aside0.mk (below_step (by repeat (first | (with_reducible first | exact HB.out | apply below_alloc | apply pw_below_drewN | apply below_drew1 | refine below_set ?_ GE993.out) | exact HB.out)) hb); clear BK993; clear HB; have BK993 := n0_; have HB := n1_; clear n0_ n1_; (try clear hb); (try clear hb2); (try clear hk); (try clear hi)) | (go_at_call 90; (with_reducible refine (sched_is.calls a1 t995 _ A8.out).mono ?_); rintro e w' ⟨rfl, ⟨nd, rfl⟩⟩))
   go_meet
   case rel => exact ⟨_, (!t995), (by first | rfl | (simp; done) | (simp [*]; done)), H', ⟨by first | omega | exact Nat.le_refl _⟩, ⟨by (with_reducible repeat (first | refine blk_drewN ?_ _ | refine blk_drew ?_ | refine blk_alloc ?_ _)); exact BK993.out⟩, ⟨by repeat (first | (with_reducible first | exact HB.out | apply below_alloc | apply pw_below_drewN | apply below_drew1 | refine below_set ?_ GE993.out) | exact HB.out)⟩⟩
  ·
   rw [if_neg c7] at H
   have c7b0 : (t994 == 0) = false := beq_eq_false_iff_ne.mpr c7
   have c7b1 : (t994 != 0) = true := bne_iff_ne.mpr c7
   (first | rw [c7b0] | (simp only [i64_w, i32_w]; rw [c7b0]) | skip)
   have H' := Aside0.mk H;clear H
   have hcz11_0 : w5.cell? ⟨gb993, 0, none⟩ = some (.int .i64 a0_0) := (blk_cell BK993.out 0).trans rfl
   have hcz11_1 : w5.cell? ⟨gb993, 1, none⟩ = some (.int .i64 a0_1) := (blk_cell BK993.out 1).trans rfl
   have hcz11_2 : w5.cell? ⟨gb993, 2, none⟩ = some (.int .i64 a0_2) := (blk_cell BK993.out 2).trans rfl
   have hcz11_3 : w5.cell? ⟨gb993, 3, none⟩ = some (.int .i64 a0_3) := (blk_cell BK993.out 3).trans rfl
   have hcz11_4 : w5.cell? ⟨gb993, 4, none⟩ = some (.int .i64 a0_4) := (blk_cell BK993.out 4).trans rfl
   have hcz11_5 : w5.cell? ⟨gb993, 5, none⟩ = some (.int .i64 a0_5) := (blk_cell BK993.out 5).trans rfl
   have hcz11_6 : w5.cell? ⟨gb993, 6, none⟩ = some (.int .i64 a0_6) := (blk_cell BK993.out 6).trans rfl
   have hcz11_7 : w5.cell? ⟨gb993, 7, none⟩ = some (.int .i64 a0_7) := (blk_cell BK993.out 7).trans rfl
   have hcz11_8 : w5.cell? ⟨gb993, 8, none⟩ = some (.int .i64 a0_8) := (blk_cell BK993.out 8).trans rfl
   have hcz11_9 : w5.cell? ⟨gb993, 9, none⟩ = some (.slice A0_9 l0_9.length c0_9) := (blk_cell BK993.out 9).trans rfl
   have hfz11_0 := blk_frozen BK993.out 0;have hfz11_1 := blk_frozen BK993.out 1;have hfz11_2 := blk_frozen BK993.out 2;have hfz11_3 := blk_frozen BK993.out 3;have hfz11_4 := blk_frozen BK993.out 4;have hfz11_5 := blk_frozen BK993.out 5;have hfz11_6 := blk_frozen BK993.out 6;have hfz11_7 := blk_frozen BK993.out 7;have hfz11_8 := blk_frozen BK993.out 8;have hfz11_9 := blk_frozen BK993.out 9
   go_wp2_with (first | ((with_reducible refine gate_callee (f := 57) rfl ?_); refine goesL_ (some 11) rfl rfl Try.func57 (by kernel_rfl) rfl #[.agg #[.int .i64 a0_0, .int .i64 a0_1, .int .i64 a0_2, .int .i64 a0_3, .int .i64 a0_4, .int .i64 a0_5, .int .i64 a0_6, .int .i64 a0_7, .int .i64 a0_8, .slice A0_9 l0_9.length c0_9]] rfl (by (try simp only [List.map_toArray, List.map_cons, List.map_nil]); first | done | rfl | (simp only [List.length_drop, List.length_take]; rfl)) ?_; (with_reducible refine (sched_Check.calls k a0_0 a0_1 a0_2 a0_3 a0_4 a0_5 a0_6 a0_7 a0_8 _ _ l0_9 t994 _ ?side1 ?side2 A6.out).mono ?_); (case side1 => repeat (first | exact (Kd.C_below HR0_9.out HB.out) | (with_reducible refine Kd.C_alloc ?_ _) | (with_reducible refine Kd.C_drewN ?_ _) | (with_reducible refine Kd.C_drew ?_))); (case side2 => exact HC0_9.out); rintro e w12 ⟨rfl, hb⟩; refine ⟨_, rfl, ?_⟩; have n0_ := Aside0.mk (blk_below (g := gb993) (o := .cells #[.int .i64 a0_0, .int .i64 a0_1, .int .i64 a0_2, .int .i64 a0_3, .int .i64 a0_4, .int .i64 a0_5, .int .i64 a0_6, .int .i64 a0_7, .int .i64 a0_8, .slice A0_9 l0_9.length c0_9] 66 (0, 0)) (by (with_reducible repeat (first | refine blk_drewN ?_ _ | refine blk_drew ?_ | refine blk_alloc ?_ _)); exact BK993.out) hb); have n1_ := Aside0.mk (below_step (by repeat (first | (with_reducible first | exact HB.out | apply below_alloc | apply pw_below_drewN | apply below_drew1 | refine below_set ?_ GE993.out) | exact HB.out)) hb); clear BK993; clear HB; have BK993 := n0_; have HB := n1_; clear n0_ n1_; (try clear hb); (try clear hb2); (try clear hk); (try clear hi)))
   go_meet
   case rel => exact ⟨_, (true), (by first | rfl | (simp; done) | (simp [*]; done)), H', ⟨by first | omega | exact Nat.le_refl _⟩, ⟨by (with_reducible repeat (first | refine blk_drewN ?_ _ | refine blk_drew ?_ | refine blk_alloc ?_ _)); exact BK993.out⟩, ⟨by repeat (first | (with_reducible first | exact HB.out | apply below_alloc | apply pw_below_drewN | apply below_drew1 | refine below_set ?_ GE993.out) | exact HB.out)⟩⟩
 case rest =>
  clear HC4
  obtain ⟨kq, x17_3, rfl, HA, HJ3, BK993, HB⟩ := hcut
  cases kq with
  | zero => exact absurd HA.out (by simp [sched_Point.j0])
  | succ kj3 =>
   have H := HA.out;clear HA
   simp only [sched_Point.j0] at H
   by_cases c13 : x17_3 = true
   ·
    subst c13
    have H1 : (some (0, false)) = some (r1, r2) := by rw [if_pos rfl] at H; exact H
    clear H;have H := H1;clear H1
    simp only [Option.some.injEq, Prod.mk.injEq] at H
    obtain ⟨rfl, rfl⟩ := H
    go_wp2
    go_ret2
    exact ⟨by first | rfl | (simp [errW_none, errW_some] <;> rfl) | (simp [*, errW_none, errW_some] <;> rfl), by repeat (first | (with_reducible first | exact HB.out | apply below_alloc | apply pw_below_drewN | apply below_drew1 | refine below_set ?_ GE993.out) | exact HB.out)⟩
   ·
    replace c13 := Bool.eq_false_iff.mpr c13;subst c13
    have H1 : ((sched_point.f kj3 a0_0 a0_1 a0_2 a0_3 a0_4 a0_5 a0_6 a0_7 a0_8 l0_9 a1 a2).bind fun bt996 => (if bt996.2 = true then (some (bt996.1, true)) else (some (0, false)))) = some (r1, r2) := by rw [if_neg (show ¬ (false = true) by decide)] at H; exact H
    clear H;have H := H1;clear H1;replace H := Option.bind_eq_some_iff.mp H
    obtain ⟨⟨t996, t997⟩, A140, H⟩ := H
    replace H : (if t997 = true then (some (t996, true)) else (some (0, false))) = some (r1, r2) := H
    have A14 := Aside0.mk A140;clear A140
    by_cases c15 : t997 = true
    ·
     subst c15
     have H1 : (some (t996, true)) = some (r1, r2) := by rw [if_pos rfl] at H; exact H
     clear H;have H := H1;clear H1
     simp only [Option.some.injEq, Prod.mk.injEq] at H
     obtain ⟨rfl, rfl⟩ := H
     have hcz16_0 : wc.cell? ⟨gb993, 0, none⟩ = some (.int .i64 a0_0) := (blk_cell BK993.out 0).trans rfl
     have hcz16_1 : wc.cell? ⟨gb993, 1, none⟩ = some (.int .i64 a0_1) := (blk_cell BK993.out 1).trans rfl
     have hcz16_2 : wc.cell? ⟨gb993, 2, none⟩ = some (.int .i64 a0_2) := (blk_cell BK993.out 2).trans rfl
     have hcz16_3 : wc.cell? ⟨gb993, 3, none⟩ = some (.int .i64 a0_3) := (blk_cell BK993.out 3).trans rfl
     have hcz16_4 : wc.cell? ⟨gb993, 4, none⟩ = some (.int .i64 a0_4) := (blk_cell BK993.out 4).trans rfl
     have hcz16_5 : wc.cell? ⟨gb993, 5, none⟩ = some (.int .i64 a0_5) := (blk_cell BK993.out 5).trans rfl
     have hcz16_6 : wc.cell? ⟨gb993, 6, none⟩ = some (.int .i64 a0_6) := (blk_cell BK993.out 6).trans rfl
     have hcz16_7 : wc.cell? ⟨gb993, 7, none⟩ = some (.int .i64 a0_7) := (blk_cell BK993.out 7).trans rfl
     have hcz16_8 : wc.cell? ⟨gb993, 8, none⟩ = some (.int .i64 a0_8) := (blk_cell BK993.out 8).trans rfl
     have hcz16_9 : wc.cell? ⟨gb993, 9, none⟩ = some (.slice A0_9 l0_9.length c0_9) := (blk_cell BK993.out 9).trans rfl
     have hfz16_0 := blk_frozen BK993.out 0;have hfz16_1 := blk_frozen BK993.out 1;have hfz16_2 := blk_frozen BK993.out 2;have hfz16_3 := blk_frozen BK993.out 3;have hfz16_4 := blk_frozen BK993.out 4;have hfz16_5 := blk_frozen BK993.out 5;have hfz16_6 := blk_frozen BK993.out 6;have hfz16_7 := blk_frozen BK993.out 7;have hfz16_8 := blk_frozen BK993.out 8;have hfz16_9 := blk_frozen BK993.out 9
     go_wp2_with (first | ((with_reducible refine gate_callee (f := 88) rfl ?_); refine goesL_ (some 22) rfl rfl Try.func88 (by kernel_rfl) rfl #[.agg #[.int .i64 a0_0, .int .i64 a0_1, .int .i64 a0_2, .int .i64 a0_3, .int .i64 a0_4, .int .i64 a0_5, .int .i64 a0_6, .int .i64 a0_7, .int .i64 a0_8, .slice A0_9 l0_9.length c0_9], .int .i64 a1, .int .i64 a2] rfl (by (try simp only [List.map_toArray, List.map_cons, List.map_nil]); first | done | rfl | (simp only [List.length_drop, List.length_take]; rfl)) ?_; (with_reducible refine (sched_point.calls kj3 a0_0 a0_1 a0_2 a0_3 a0_4 a0_5 a0_6 a0_7 a0_8 _ _ l0_9 a1 a2 t996 true _ ?side1 ?side2 A14.out).mono ?_); (case side1 => repeat (first | exact (Kd.C_below HR0_9.out HB.out) | (with_reducible refine Kd.C_alloc ?_ _) | (with_reducible refine Kd.C_drewN ?_ _) | (with_reducible refine Kd.C_drew ?_))); (case side2 => exact HC0_9.out); rintro e w17 ⟨rfl, hb⟩; refine ⟨_, rfl, ?_⟩; have n0_ := Aside0.mk (blk_below (g := gb993) (o := .cells #[.int .i64 a0_0, .int .i64 a0_1, .int .i64 a0_2, .int .i64 a0_3, .int .i64 a0_4, .int .i64 a0_5, .int .i64 a0_6, .int .i64 a0_7, .int .i64 a0_8, .slice A0_9 l0_9.length c0_9] 66 (0, 0)) (by (with_reducible repeat (first | refine blk_drewN ?_ _ | refine blk_drew ?_ | refine blk_alloc ?_ _)); exact BK993.out) hb); have n1_ := Aside0.mk (below_step (by repeat (first | (with_reducible first | exact HB.out | apply below_alloc | apply pw_below_drewN | apply below_drew1 | refine below_set ?_ GE993.out) | exact HB.out)) hb); clear BK993; clear HB; have BK993 := n0_; have HB := n1_; clear n0_ n1_; (try clear hb); (try clear hb2); (try clear hk); (try clear hi)))
     go_ret2
     exact ⟨by first | rfl | (simp [errW_none, errW_some] <;> rfl) | (simp [*, errW_none, errW_some] <;> rfl), by repeat (first | (with_reducible first | exact HB.out | apply below_alloc | apply pw_below_drewN | apply below_drew1 | refine below_set ?_ GE993.out) | exact HB.out)⟩
    ·
     replace c15 := Bool.eq_false_iff.mpr c15;subst c15
     have H1 : (some (0, false)) = some (r1, r2) := by rw [if_neg (show ¬ (false = true) by decide)] at H; exact H
     clear H;have H := H1;clear H1
     simp only [Option.some.injEq, Prod.mk.injEq] at H
     obtain ⟨rfl, rfl⟩ := H
     have hcz18_0 : wc.cell? ⟨gb993, 0, none⟩ = some (.int .i64 a0_0) := (blk_cell BK993.out 0).trans rfl
     have hcz18_1 : wc.cell? ⟨gb993, 1, none⟩ = some (.int .i64 a0_1) := (blk_cell BK993.out 1).trans rfl
     have hcz18_2 : wc.cell? ⟨gb993, 2, none⟩ = some (.int .i64 a0_2) := (blk_cell BK993.out 2).trans rfl
     have hcz18_3 : wc.cell? ⟨gb993, 3, none⟩ = some (.int .i64 a0_3) := (blk_cell BK993.out 3).trans rfl
     have hcz18_4 : wc.cell? ⟨gb993, 4, none⟩ = some (.int .i64 a0_4) := (blk_cell BK993.out 4).trans rfl
     have hcz18_5 : wc.cell? ⟨gb993, 5, none⟩ = some (.int .i64 a0_5) := (blk_cell BK993.out 5).trans rfl
     have hcz18_6 : wc.cell? ⟨gb993, 6, none⟩ = some (.int .i64 a0_6) := (blk_cell BK993.out 6).trans rfl
     have hcz18_7 : wc.cell? ⟨gb993, 7, none⟩ = some (.int .i64 a0_7) := (blk_cell BK993.out 7).trans rfl
     have hcz18_8 : wc.cell? ⟨gb993, 8, none⟩ = some (.int .i64 a0_8) := (blk_cell BK993.out 8).trans rfl
     have hcz18_9 : wc.cell? ⟨gb993, 9, none⟩ = some (.slice A0_9 l0_9.length c0_9) := (blk_cell BK993.out 9).trans rfl
     have hfz18_0 := blk_frozen BK993.out 0;have hfz18_1 := blk_frozen BK993.out 1;have hfz18_2 := blk_frozen BK993.out 2;have hfz18_3 := blk_frozen BK993.out 3;have hfz18_4 := blk_frozen BK993.out 4;have hfz18_5 := blk_frozen BK993.out 5;have hfz18_6 := blk_frozen BK993.out 6;have hfz18_7 := blk_frozen BK993.out 7;have hfz18_8 := blk_frozen BK993.out 8;have hfz18_9 := blk_frozen BK993.out 9
     go_wp2_with (first | ((with_reducible refine gate_callee (f := 88) rfl ?_); refine goesL_ (some 22) rfl rfl Try.func88 (by kernel_rfl) rfl #[.agg #[.int .i64 a0_0, .int .i64 a0_1, .int .i64 a0_2, .int .i64 a0_3, .int .i64 a0_4, .int .i64 a0_5, .int .i64 a0_6, .int .i64 a0_7, .int .i64 a0_8, .slice A0_9 l0_9.length c0_9], .int .i64 a1, .int .i64 a2] rfl (by (try simp only [List.map_toArray, List.map_cons, List.map_nil]); first | done | rfl | (simp only [List.length_drop, List.length_take]; rfl)) ?_; (with_reducible refine (sched_point.calls kj3 a0_0 a0_1 a0_2 a0_3 a0_4 a0_5 a0_6 a0_7 a0_8 _ _ l0_9 a1 a2 t996 false _ ?side1 ?side2 A14.out).mono ?_); (case side1 => repeat (first | exact (Kd.C_below HR0_9.out HB.out) | (with_reducible refine Kd.C_alloc ?_ _) | (with_reducible refine Kd.C_drewN ?_ _) | (with_reducible refine Kd.C_drew ?_))); (case side2 => exact HC0_9.out); rintro e w19 ⟨rfl, hb⟩; refine ⟨_, rfl, ?_⟩; have n0_ := Aside0.mk (blk_below (g := gb993) (o := .cells #[.int .i64 a0_0, .int .i64 a0_1, .int .i64 a0_2, .int .i64 a0_3, .int .i64 a0_4, .int .i64 a0_5, .int .i64 a0_6, .int .i64 a0_7, .int .i64 a0_8, .slice A0_9 l0_9.length c0_9] 66 (0, 0)) (by (with_reducible repeat (first | refine blk_drewN ?_ _ | refine blk_drew ?_ | refine blk_alloc ?_ _)); exact BK993.out) hb); have n1_ := Aside0.mk (below_step (by repeat (first | (with_reducible first | exact HB.out | apply below_alloc | apply pw_below_drewN | apply below_drew1 | refine below_set ?_ GE993.out) | exact HB.out)) hb); clear BK993; clear HB; have BK993 := n0_; have HB := n1_; clear n0_ n1_; (try clear hb); (try clear hb2); (try clear hk); (try clear hi)))
     go_ret2
     exact ⟨by first | rfl | (simp [errW_none, errW_some] <;> rfl) | (simp [*, errW_none, errW_some] <;> rfl), by repeat (first | (with_reducible first | exact HB.out | apply below_alloc | apply pw_below_drewN | apply below_drew1 | refine below_set ?_ GE993.out) | exact HB.out)⟩
end Go.Proofs.Ytoncignjcgjhhaa.Q
