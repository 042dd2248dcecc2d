/- Contracts and facts of functions of the program (calendar, dates and their documents), joined in one text by a program of this session. No condition but what each theorem states. -/
import Derived.Test.YtoncignjcgjhhaaEGA
import Derived.Test.YtoncignjcgjhhaaEGH
import Derived.Test.YtoncignjcgjhhaaEGF
import Derived.Test.YtoncignjcgjhhaaEGE
set_option linter.unusedVariables false
set_option linter.unusedSimpArgs false
namespace Go.Proofs.Ytoncignjcgjhhaa.Q
open Go.RowKit Go.Proofs.YtoncignjcgjhhaaW.PrintWords Go.Proofs.YtoncignjcgjhhaaW.PrintLast Go.Proofs.YtoncignjcgjhhaaW.PrintMore
attribute [local go_sem] max2_int min2_int max_two min_two max_three min_three max_four min_four   -- for this text's walks alone
def sched_Periods.l0 : Nat → List Int → List (S81) → Int → Int → Int → Int → Int → Int → Int → Int → Int → Int → Int → List (S63) → Option ((List (S81)) × Int)
  | 0, _, _, _, _, _, _, _, _, _, _, _, _, _, _ => none
  | k + 1, x4, x6, x23, x24, x778000, x778001, x778002, x778003, x778004, x778005, x778006, x778007, x778008, x778009 => if x24 < x23 then (if 0 ≤ x24 then (if x24 < (x4.length : Int) then (if 0 ≤ (wrap64 (x24 + 1)) then (if (wrap64 (x24 + 1)) < (x4.length : Int) then ((cal_Adjust.f x778008 x778009 (rd x4 x24) x778006).bind fun bt788 => (if bt788.2 = 0 then ((cal_Adjust.f x778008 x778009 (rd x4 (wrap64 (x24 + 1))) x778006).bind fun bt790 => (if bt790.2 = 0 then (if x778007 > 0 then ((cal_Add.f x778008 x778009 bt790.1 x778007).bind fun bt792 => (if bt792.2 = 0 then (if x6.length < 3518437208883 then (sched_Periods.l0 k x4 (x6 ++ [(⟨rd x4 x24, rd x4 (wrap64 (x24 + 1)), bt788.1, bt790.1, bt792.1⟩ : S81)]) x23 (wrap64 (x24 + 1)) x778000 x778001 x778002 x778003 x778004 x778005 x778006 x778007 x778008 x778009) else (none)) else (some (([] : List (S81)), bt792.2)))) else (if x6.length < 3518437208883 then (sched_Periods.l0 k x4 (x6 ++ [(⟨rd x4 x24, rd x4 (wrap64 (x24 + 1)), bt788.1, bt790.1, bt790.1⟩ : S81)]) x23 (wrap64 (x24 + 1)) x778000 x778001 x778002 x778003 x778004 x778005 x778006 x778007 x778008 x778009) else (none))) else (some (([] : List (S81)), bt790.2)))) else (some (([] : List (S81)), bt788.2)))) else (none)) else (none)) else (none)) else (none)) else (some (x6, 0))
def sched_Periods.f (k : Nat) (a0_0 : Int) (a0_1 : Int) (a0_2 : Int) (a0_3 : Int) (a0_4 : Int) (a0_5 : Int) (a0_6 : Int) (a0_7 : Int) (a0_8 : Int) (l0_9 : List (S63)) : Option ((List (S81)) × Int) := (sched_Dates.f k a0_0 a0_1 a0_2 a0_3 a0_4 a0_5 a0_6 a0_7 a0_8 l0_9).bind fun bt778 => (if bt778.2 = 0 then (if 0 ≤ (wrap64 ((bt778.1.length : Int) - 1)) then (if (wrap64 ((bt778.1.length : Int) - 1) : Int).toNat ≤ 7036874417766 then (sched_Periods.l0 k bt778.1 (List.replicate 0 z81) (wrap64 ((bt778.1.length : Int) - 1)) 0 a0_0 a0_1 a0_2 a0_3 a0_4 a0_5 a0_6 a0_7 a0_8 l0_9) else (none)) else (none)) else (some (([] : List (S81)), bt778.2)))
theorem sched_Periods.mono_l : ∀ k, (∀ y0 y1 y2 y3 y4 y5 y6 y7 y8 y9 y10 y11 y12 y13, LeO (sched_Periods.l0 k y0 y1 y2 y3 y4 y5 y6 y7 y8 y9 y10 y11 y12 y13) (sched_Periods.l0 (k + 1) y0 y1 y2 y3 y4 y5 y6 y7 y8 y9 y10 y11 y12 y13))
 | 0 => fun _ _ _ _ _ _ _ _ _ _ _ _ _ _ r h => by simp [sched_Periods.l0] at h
 | k + 1 => by
  have ih0 := sched_Periods.mono_l k
  ·
   intro y0 y1 y2 y3 y4 y5 y6 y7 y8 y9 y10 y11 y12 y13
   unfold sched_Periods.l0
   repeat' first
   | (with_reducible exact ih0 _ _ _ _ _ _ _ _ _ _ _ _ _ _)
   | (with_reducible exact sched_Dates.mono _ _ _ _ _ _ _ _ _ _ _)
   | (with_reducible exact LeO.refl _)
   | (with_reducible exact LeO.none _)
   | (with_reducible refine LeO.ite ?_ ?_)
   | (with_reducible refine LeO.bind ?_ (fun _ => ?_))
   | exact ih0 _ _ _ _ _ _ _ _ _ _ _ _ _ _
   | exact sched_Dates.mono _ _ _ _ _ _ _ _ _ _ _
   | exact LeO.none _
   | refine LeO.ite ?_ ?_
   | refine LeO.bind ?_ (fun _ => ?_)
theorem sched_Periods.mono : ∀ a0 a1 a2 a3 a4 a5 a6 a7 a8 a9 k, LeO (sched_Periods.f k a0 a1 a2 a3 a4 a5 a6 a7 a8 a9) (sched_Periods.f (k + 1) a0 a1 a2 a3 a4 a5 a6 a7 a8 a9) := by
 intro a0 a1 a2 a3 a4 a5 a6 a7 a8 a9 k
 have ih0 := sched_Periods.mono_l k
 unfold sched_Periods.f
 repeat' first
   | (with_reducible exact ih0 _ _ _ _ _ _ _ _ _ _ _ _ _ _)
   | (with_reducible exact sched_Dates.mono _ _ _ _ _ _ _ _ _ _ _)
   | (with_reducible exact LeO.refl _)
   | (with_reducible exact LeO.none _)
   | (with_reducible refine LeO.ite ?_ ?_)
   | (with_reducible refine LeO.bind ?_ (fun _ => ?_))
   | exact ih0 _ _ _ _ _ _ _ _ _ _ _ _ _ _
   | exact sched_Dates.mono _ _ _ _ _ _ _ _ _ _ _
   | exact LeO.none _
   | refine LeO.ite ?_ ?_
   | refine LeO.bind ?_ (fun _ => ?_)
def sched_Periods.T8 : Bool × List (List Nat × List Nat) := (true, [([], []), ([], []), ([0, 1], [0, 1]), ([2], [2]), ([], []), ([], []), ([5], [5]), ([4, 6], [4, 6]), ([7], [7]), ([3, 8], [3, 8]), ([], []), ([10, 9, 0, 1, 2, 3, 4, 5, 6, 7, 8, 9, 10], [9, 10])])
def sched_Periods.B8 : List Nat := [0, 0, 3, 7, 0, 0, 32, 112, 240, 511, 0, 2047]
theorem sched_Periods.tab8 : rtab .any (opsOf Try.f54 8) = sched_Periods.T8 := by kernel_rfl
theorem sched_Periods.bits8 : waitsOk sched_Periods.T8.2 sched_Periods.B8 = true := by kernel_rfl
set_option maxHeartbeats 8000000 in
set_option maxRecDepth 100000 in
theorem sched_Periods.calls (k : Nat) (a0_0 : Int) (a0_1 : Int) (a0_2 : Int) (a0_3 : Int) (a0_4 : Int) (a0_5 : Int) (a0_6 : Int) (a0_7 : Int) (a0_8 : Int) (A0_9 : Option Addr) (c0_9 : Nat) (l0_9 : List (S63)) (r1 : List (S81)) (r2 : Int) (w : World) (hr0_9 : Kd.C k63 w A0_9 l0_9.length l0_9) (hc0_9 : l0_9.length ≤ c0_9) (h : sched_Periods.f k a0_0 a0_1 a0_2 a0_3 a0_4 a0_5 a0_6 a0_7 a0_8 l0_9 = some (r1, r2)) :
  Calls Try.prog 54 #[.agg #[.int .i64 a0_0, .int .i64 a0_1, .int .i64 a0_2, .int .i64 a0_3, .int .i64 a0_4, .int .i64 a0_5, .int .i64 a0_6, .int .i64 a0_7, .int .i64 a0_8, .slice A0_9 l0_9.length c0_9]] w fun e w' => ∃ v0_ : Value, e = .returned (.tuple #[v0_, .int .i64 r2]) ∧ Kd.R k81 81 w' w.heap.size (fun _ => True) v0_ r1 ∧ Below w.heap.size w w' := by
 have hu66 := Try.underlying66;have hu81 := Try.underlying81;have hu24 := Try.underlying24;have HR0_9 := Aside0.mk hr0_9;have HC0_9 := Aside0.mk hc0_9;clear hr0_9 hc0_9
 have HB := Aside0.mk (Below.refl w.heap.size w)
 have H : ((sched_Dates.f k a0_0 a0_1 a0_2 a0_3 a0_4 a0_5 a0_6 a0_7 a0_8 l0_9).bind fun bt778 => (if bt778.2 = 0 then (if 0 ≤ (wrap64 ((bt778.1.length : Int) - 1)) then (if (wrap64 ((bt778.1.length : Int) - 1) : Int).toNat ≤ 7036874417766 then (sched_Periods.l0 k bt778.1 (List.replicate 0 z81) (wrap64 ((bt778.1.length : Int) - 1)) 0 a0_0 a0_1 a0_2 a0_3 a0_4 a0_5 a0_6 a0_7 a0_8 l0_9) else (none)) else (none)) else (some (([] : List (S81)), bt778.2)))) = some (r1, r2) := h
 clear h;replace H := Option.bind_eq_some_iff.mp H
 obtain ⟨⟨t778, t781⟩, A20, H⟩ := H
 replace H : (if t781 = 0 then (if 0 ≤ (wrap64 ((t778.length : Int) - 1)) then (if (wrap64 ((t778.length : Int) - 1) : Int).toNat ≤ 7036874417766 then (sched_Periods.l0 k t778 (List.replicate 0 z81) (wrap64 ((t778.length : Int) - 1)) 0 a0_0 a0_1 a0_2 a0_3 a0_4 a0_5 a0_6 a0_7 a0_8 l0_9) else (none)) else (none)) else (some (([] : List (S81)), t781))) = some (r1, r2) := H
 have A2 := Aside0.mk A20;clear A20
 by_cases c3 : t781 = 0
 ·
  rw [if_pos c3] at H
  have c3b0 : (t781 == 0) = true := beq_iff_eq.mpr c3
  have c3b1 : (t781 != 0) = false := bne_eq_false_iff_eq.mpr c3
  clear c3
  obtain ⟨ji4, hji4⟩ : ∃ j_ : Int, (wrap64 ((t778.length : Int) - 1)) = j_ := ⟨_, rfl⟩
  replace H : (if 0 ≤ (ji4) then (if (ji4 : Int).toNat ≤ 7036874417766 then (sched_Periods.l0 k t778 (List.replicate 0 z81) ji4 0 a0_0 a0_1 a0_2 a0_3 a0_4 a0_5 a0_6 a0_7 a0_8 l0_9) else (none)) else (none)) = some (r1, r2) := by first | (rw [hji4] at H; exact H) | (simp only [hji4] at H ⊢; exact H)
  (try rw [hji4] at A2)
  have hji4w : (IntKind.i64.wrap ((t778.length : Int) - 1)) = ji4 := (i64_w _).trans hji4
  by_cases c5 : 0 ≤ (ji4)
  ·
   rw [if_pos c5] at H
   have c5b0 := eq_true c5
   have c5b1 : decide (0 ≤ (ji4)) = true := decide_eq_true c5
   clear c5
   by_cases c6 : (ji4 : Int).toNat ≤ 7036874417766
   ·
    rw [if_pos c6] at H
    have c6b0 := eq_true c6
    have c6b1 : decide ((ji4 : Int).toNat ≤ 7036874417766) = true := decide_eq_true c6
    clear c6
    obtain ⟨y782, hy782⟩ : ∃ y_ : List (S81), y_ = (List.replicate 0 z81) := ⟨_, rfl⟩
    replace H : (sched_Periods.l0 k t778 y782 ji4 0 a0_0 a0_1 a0_2 a0_3 a0_4 a0_5 a0_6 a0_7 a0_8 l0_9) = some (r1, r2) := by first | (rw [hy782]; with_reducible exact H) | (have H2_ := (Option.bind_some _ _).symm.trans H; rw [hy782]; with_reducible exact H2_) | (have H2_ := (Option.bind_some _ _).symm.trans H; with_reducible exact H2_) | with_reducible exact H | (rw [hy782]; exact H) | exact H
    have Ny782 := Aside0.mk hy782;clear hy782;have H' := Aside0.mk H;clear H
    go_enter Try.func54, Try.ntmps54
    go_wp2_with (first | ((with_reducible refine gate_dst (N := 1) rfl ?_); refine box_event ?hg (N := 1) ?hd (cs := #[.int .i64 a0_0, .int .i64 a0_1, .int .i64 a0_2, .int .i64 a0_3, .int .i64 a0_4, .int .i64 a0_5, .int .i64 a0_6, .int .i64 a0_7, .int .i64 a0_8, .slice A0_9 l0_9.length c0_9]) (t := 66) ?hr ?_; (case hd => rfl); (case hg => rfl); (case hr => first | (go_simp; done) | (go_simp; rfl)); intro gb777 hg w7 hbox hb; have n0_ := Aside0.mk (below_step (by repeat (first | (with_reducible first | exact HB.out | apply below_alloc | apply pw_below_drewN | apply below_drew1) | exact HB.out)) hb); have n1_ := Aside0.mk (hbox); have n2_ := Aside0.mk ((by rw [hg]; exact (below_size (by repeat (first | (with_reducible first | exact HB.out | apply below_alloc | apply pw_below_drewN | apply below_drew1) | exact HB.out))) : w.heap.size ≤ gb777)); have n3_ := Aside0.mk ((by rw [hg]; exact (below_size (by repeat (first | (with_reducible first | exact HB.out | apply below_alloc | apply pw_below_drewN | apply below_drew1) | exact HB.out))) : w.heap.size ≤ gb777)); clear HB; have HB := n0_; have BK777 := n1_; have GW777 := n2_; have GE777 := n3_; clear n0_ n1_ n2_ n3_; clear hb hbox hg; have hcz8_0 : w7.cell? ⟨gb777, 0, none⟩ = some (.int .i64 a0_0) := (blk_cell BK777.out 0).trans rfl; have hcz8_1 : w7.cell? ⟨gb777, 1, none⟩ = some (.int .i64 a0_1) := (blk_cell BK777.out 1).trans rfl; have hcz8_2 : w7.cell? ⟨gb777, 2, none⟩ = some (.int .i64 a0_2) := (blk_cell BK777.out 2).trans rfl; have hcz8_3 : w7.cell? ⟨gb777, 3, none⟩ = some (.int .i64 a0_3) := (blk_cell BK777.out 3).trans rfl; have hcz8_4 : w7.cell? ⟨gb777, 4, none⟩ = some (.int .i64 a0_4) := (blk_cell BK777.out 4).trans rfl; have hcz8_5 : w7.cell? ⟨gb777, 5, none⟩ = some (.int .i64 a0_5) := (blk_cell BK777.out 5).trans rfl; have hcz8_6 : w7.cell? ⟨gb777, 6, none⟩ = some (.int .i64 a0_6) := (blk_cell BK777.out 6).trans rfl; have hcz8_7 : w7.cell? ⟨gb777, 7, none⟩ = some (.int .i64 a0_7) := (blk_cell BK777.out 7).trans rfl; have hcz8_8 : w7.cell? ⟨gb777, 8, none⟩ = some (.int .i64 a0_8) := (blk_cell BK777.out 8).trans rfl; have hcz8_9 : w7.cell? ⟨gb777, 9, none⟩ = some (.slice A0_9 l0_9.length c0_9) := (blk_cell BK777.out 9).trans rfl; have hfz8_0 := blk_frozen BK777.out 0; have hfz8_1 := blk_frozen BK777.out 1; have hfz8_2 := blk_frozen BK777.out 2; have hfz8_3 := blk_frozen BK777.out 3; have hfz8_4 := blk_frozen BK777.out 4; have hfz8_5 := blk_frozen BK777.out 5; have hfz8_6 := blk_frozen BK777.out 6; have hfz8_7 := blk_frozen BK777.out 7; have hfz8_8 := blk_frozen BK777.out 8; have hfz8_9 := blk_frozen BK777.out 9) | ((with_reducible refine gate_callee (f := 50) rfl ?_); refine goesL_ (some 11) rfl rfl Try.func50 (by kernel_rfl) rfl #[.agg #[.int .i64 a0_0, .int .i64 a0_1, .int .i64 a0_2, .int .i64 a0_3, .int .i64 a0_4, .int .i64 a0_5, .int .i64 a0_6, .int .i64 a0_7, .int .i64 a0_8, .slice A0_9 l0_9.length c0_9]] rfl (by (try simp only [List.map_toArray, List.map_cons, List.map_nil]); first | done | rfl | (simp only [List.length_drop, List.length_take]; rfl)) ?_; (with_reducible refine (sched_Dates.calls k a0_0 a0_1 a0_2 a0_3 a0_4 a0_5 a0_6 a0_7 a0_8 _ _ l0_9 t778 t781 _ ?side1 ?side2 A2.out).mono ?_); (case side1 => repeat (first | exact (Kd.C_below HR0_9.out HB.out) | (with_reducible refine Kd.C_alloc ?_ _) | (with_reducible refine Kd.C_drewN ?_ _) | (with_reducible refine Kd.C_drew ?_))); (case side2 => exact HC0_9.out); rintro e w9 ⟨v779, rfl, ho0, hb⟩; refine ⟨_, rfl, ?_⟩; have n0_ := Aside0.mk (Kd.R_lower ho0 (below_size (by repeat (first | (with_reducible first | exact HB.out | apply below_alloc | apply pw_below_drewN | apply below_drew1 | refine below_set ?_ GE777.out) | exact HB.out)))); have n1_ := Aside0.mk (blk_below (g := gb777) (o := .cells #[.int .i64 a0_0, .int .i64 a0_1, .int .i64 a0_2, .int .i64 a0_3, .int .i64 a0_4, .int .i64 a0_5, .int .i64 a0_6, .int .i64 a0_7, .int .i64 a0_8, .slice A0_9 l0_9.length c0_9] 66 (0, 0)) (by (with_reducible repeat (first | refine blk_drewN ?_ _ | refine blk_drew ?_ | refine blk_alloc ?_ _)); exact BK777.out) hb); have n2_ := Aside0.mk (below_step (by repeat (first | (with_reducible first | exact HB.out | apply below_alloc | apply pw_below_drewN | apply below_drew1 | refine below_set ?_ GE777.out) | exact HB.out)) hb); clear BK777; clear HB; have HO780 := n0_; have BK777 := n1_; have HB := n2_; clear n0_ n1_ n2_; (try clear hb); (try clear hb2); (try clear hk); (try clear hi); (try clear ho0); obtain ⟨Ao10, co10, eo10⟩ := Kd.R_slice HO780.out; subst eo10) | ((with_reducible refine gate_dst (N := 20) rfl ?_); refine Kd.R_make0 k81 _ 81 rfl (N := 20) rfl 74 _ _ rfl ji4 rfl rfl Try.underlying74 (.agg #[(.int .i64 0), (.int .i64 0), (.int .i64 0), (.int .i64 0), (.int .i64 0)]) 40 info81 rfl (by decide) (by omega) z81 (ok := fun _ => True) (okp := fun _ => True) (k81_mkM _ _ _ z81 ) (fun _ hk => hk) trivial (of_decide_eq_true (by first | (with_reducible assumption) | assumption)) (Nat.le_trans (Nat.mul_le_mul_right _ (of_decide_eq_true (by first | (with_reducible assumption) | assumption) : ji4.toNat ≤ 7036874417766)) (by omega)) (Below.refl _ _) (Nat.le_refl _) ?_; intro v783 w11 ho12 hb hg_ hnew_; clear hg_ hnew_; (first | rw [← Ny782.out] at ho12 | (simp only [Int.reduceToNat] at ho12; rw [← Ny782.out] at ho12)); have n0_ := Aside0.mk (Kd.R_below (by (with_reducible repeat (first | apply Kd.R_alloc | apply Kd.R_drewN | apply Kd.R_drew)); exact HO780.out) hb); have n1_ := Aside0.mk (Kd.R_lower ho12 (below_size (by repeat (first | (with_reducible first | exact HB.out | apply below_alloc | apply pw_below_drewN | apply below_drew1 | refine below_set ?_ GE777.out) | exact HB.out)))); have n2_ := Aside0.mk (blk_below (g := gb777) (o := .cells #[.int .i64 a0_0, .int .i64 a0_1, .int .i64 a0_2, .int .i64 a0_3, .int .i64 a0_4, .int .i64 a0_5, .int .i64 a0_6, .int .i64 a0_7, .int .i64 a0_8, .slice A0_9 l0_9.length c0_9] 66 (0, 0)) (by (with_reducible repeat (first | refine blk_drewN ?_ _ | refine blk_drew ?_ | refine blk_alloc ?_ _)); exact BK777.out) hb); have n3_ := Aside0.mk (below_step (by repeat (first | (with_reducible first | exact HB.out | apply below_alloc | apply pw_below_drewN | apply below_drew1 | refine below_set ?_ GE777.out) | exact HB.out)) hb); clear HO780; clear BK777; clear HB; have HO780 := n0_; have HO784 := n1_; have BK777 := n2_; have HB := n3_; clear n0_ n1_ n2_ n3_; clear hb ho12))
    go_loopg [6, 24] k (fun kq v6 v24 w' => ∃ (x6_1 : List (S81)) (x24_1 : Int), v24 = .int .i64 x24_1 ∧ Aside0 (sched_Periods.l0 kq t778 x6_1 ji4 x24_1 a0_0 a0_1 a0_2 a0_3 a0_4 a0_5 a0_6 a0_7 a0_8 l0_9 = some (r1, r2)) ∧ Aside0 (kq ≤ k) ∧ Aside0 (Kd.R (Kd.int .i64) 3 w' w.heap.size (fun _ => True) (.slice Ao10 t778.length co10) t778) ∧ Aside0 (Kd.R k81 81 w' w.heap.size (fun _ => True) v6 x6_1) ∧ Aside0 (w'.heap[gb777]? = some (.cells #[.int .i64 a0_0, .int .i64 a0_1, .int .i64 a0_2, .int .i64 a0_3, .int .i64 a0_4, .int .i64 a0_5, .int .i64 a0_6, .int .i64 a0_7, .int .i64 a0_8, (.slice A0_9 l0_9.length c0_9)] 66 (0, 0))) ∧ Aside0 (Below w.heap.size w w'))
    case atStart => exact ⟨(y782), (0), (by first | rfl | (simp; done) | (simp [*]; done)), H', ⟨Nat.le_refl _⟩, ⟨by (with_reducible repeat (first | apply Kd.R_alloc | apply Kd.R_drewN | apply Kd.R_drew)); exact HO780.out⟩, ⟨by (with_reducible repeat (first | apply Kd.R_alloc | apply Kd.R_drewN | apply Kd.R_drew)); exact HO784.out⟩, ⟨by (with_reducible repeat (first | refine blk_drewN ?_ _ | refine blk_drew ?_ | refine blk_alloc ?_ _)); exact BK777.out⟩, ⟨by repeat (first | (with_reducible first | exact HB.out | apply below_alloc | apply pw_below_drewN | apply below_drew1 | refine below_set ?_ GE777.out) | exact HB.out)⟩⟩
    case round =>
     clear H'
     obtain ⟨x6_1, x24_1, rfl, HA, HK1, HO_4, HO_6, BK777, HB⟩ := hrel
     cases gk with
     | zero => exact absurd HA.out (by simp [sched_Periods.l0])
     | succ k1 =>
      have H := HA.out;clear HA
      simp only [sched_Periods.l0] at H
      by_cases c13 : x24_1 < ji4
      ·
       rw [if_pos c13] at H
       have c13b0 : decide (x24_1 < ji4) = true := decide_eq_true c13
       clear c13
       by_cases c14 : 0 ≤ x24_1
       ·
        rw [if_pos c14] at H
        have c14b0 : decide (0 ≤ x24_1) = true := decide_eq_true c14
        clear c14
        by_cases c15 : x24_1 < (t778.length : Int)
        ·
         rw [if_pos c15] at H
         have c15b0 : decide (x24_1 < (t778.length : Int)) = true := decide_eq_true c15
         clear c15
         obtain ⟨ji16, hji16⟩ : ∃ j_ : Int, (wrap64 (x24_1 + 1)) = j_ := ⟨_, rfl⟩
         replace H : (if 0 ≤ (ji16) then (if (ji16) < (t778.length : Int) then ((cal_Adjust.f a0_8 l0_9 (rd t778 x24_1) a0_6).bind fun bt788 => (if bt788.2 = 0 then ((cal_Adjust.f a0_8 l0_9 (rd t778 (ji16)) a0_6).bind fun bt790 => (if bt790.2 = 0 then (if a0_7 > 0 then ((cal_Add.f a0_8 l0_9 bt790.1 a0_7).bind fun bt792 => (if bt792.2 = 0 then (if x6_1.length < 3518437208883 then (sched_Periods.l0 k1 t778 (x6_1 ++ [(⟨rd t778 x24_1, rd t778 (ji16), bt788.1, bt790.1, bt792.1⟩ : S81)]) ji4 ji16 a0_0 a0_1 a0_2 a0_3 a0_4 a0_5 a0_6 a0_7 a0_8 l0_9) else (none)) else (some (([] : List (S81)), bt792.2)))) else (if x6_1.length < 3518437208883 then (sched_Periods.l0 k1 t778 (x6_1 ++ [(⟨rd t778 x24_1, rd t778 (ji16), bt788.1, bt790.1, bt790.1⟩ : S81)]) ji4 ji16 a0_0 a0_1 a0_2 a0_3 a0_4 a0_5 a0_6 a0_7 a0_8 l0_9) else (none))) else (some (([] : List (S81)), bt790.2)))) else (some (([] : List (S81)), bt788.2)))) else (none)) else (none)) = some (r1, r2) := by first | (rw [hji16] at H; exact H) | (simp only [hji16] at H ⊢; exact H)
         have hji16w : (IntKind.i64.wrap (x24_1 + 1)) = ji16 := (i64_w _).trans hji16
         by_cases c17 : 0 ≤ (ji16)
         ·
          rw [if_pos c17] at H
          have c17b0 : decide (0 ≤ (ji16)) = true := decide_eq_true c17
          clear c17
          by_cases c18 : (ji16) < (t778.length : Int)
          ·
           rw [if_pos c18] at H
           have c18b0 : decide ((ji16) < (t778.length : Int)) = true := decide_eq_true c18
           clear c18;replace H := Option.bind_eq_some_iff.mp H
           obtain ⟨⟨t788, t789⟩, A190, H⟩ := H
           replace H : (if t789 = 0 then ((cal_Adjust.f a0_8 l0_9 (rd t778 (ji16)) a0_6).bind fun bt790 => (if bt790.2 = 0 then (if a0_7 > 0 then ((cal_Add.f a0_8 l0_9 bt790.1 a0_7).bind fun bt792 => (if bt792.2 = 0 then (if x6_1.length < 3518437208883 then (sched_Periods.l0 k1 t778 (x6_1 ++ [(⟨rd t778 x24_1, rd t778 (ji16), t788, bt790.1, bt792.1⟩ : S81)]) ji4 ji16 a0_0 a0_1 a0_2 a0_3 a0_4 a0_5 a0_6 a0_7 a0_8 l0_9) else (none)) else (some (([] : List (S81)), bt792.2)))) else (if x6_1.length < 3518437208883 then (sched_Periods.l0 k1 t778 (x6_1 ++ [(⟨rd t778 x24_1, rd t778 (ji16), t788, bt790.1, bt790.1⟩ : S81)]) ji4 ji16 a0_0 a0_1 a0_2 a0_3 a0_4 a0_5 a0_6 a0_7 a0_8 l0_9) else (none))) else (some (([] : List (S81)), bt790.2)))) else (some (([] : List (S81)), t789))) = some (r1, r2) := H
           have A19 := Aside0.mk A190;clear A190
           by_cases c20 : t789 = 0
           ·
            rw [if_pos c20] at H
            have c20b0 : (t789 == 0) = true := beq_iff_eq.mpr c20
            have c20b1 : (t789 != 0) = false := bne_eq_false_iff_eq.mpr c20
            clear c20;replace H := Option.bind_eq_some_iff.mp H
            obtain ⟨⟨t790, t791⟩, A210, H⟩ := H
            replace H : (if t791 = 0 then (if a0_7 > 0 then ((cal_Add.f a0_8 l0_9 t790 a0_7).bind fun bt792 => (if bt792.2 = 0 then (if x6_1.length < 3518437208883 then (sched_Periods.l0 k1 t778 (x6_1 ++ [(⟨rd t778 x24_1, rd t778 (ji16), t788, t790, bt792.1⟩ : S81)]) ji4 ji16 a0_0 a0_1 a0_2 a0_3 a0_4 a0_5 a0_6 a0_7 a0_8 l0_9) else (none)) else (some (([] : List (S81)), bt792.2)))) else (if x6_1.length < 3518437208883 then (sched_Periods.l0 k1 t778 (x6_1 ++ [(⟨rd t778 x24_1, rd t778 (ji16), t788, t790, t790⟩ : S81)]) ji4 ji16 a0_0 a0_1 a0_2 a0_3 a0_4 a0_5 a0_6 a0_7 a0_8 l0_9) else (none))) else (some (([] : List (S81)), t791))) = some (r1, r2) := H
            have A21 := Aside0.mk A210;clear A210
            by_cases c22 : t791 = 0
            ·
             rw [if_pos c22] at H
             have c22b0 : (t791 == 0) = true := beq_iff_eq.mpr c22
             have c22b1 : (t791 != 0) = false := bne_eq_false_iff_eq.mpr c22
             clear c22
             by_cases c23 : a0_7 > 0
             ·
              rw [if_pos c23] at H
              have c23b0 : decide (0 < a0_7) = true := decide_eq_true c23
              clear c23;replace H := Option.bind_eq_some_iff.mp H
              obtain ⟨⟨t792, t793⟩, A240, H⟩ := H
              replace H : (if t793 = 0 then (if x6_1.length < 3518437208883 then (sched_Periods.l0 k1 t778 (x6_1 ++ [(⟨rd t778 x24_1, rd t778 (ji16), t788, t790, t792⟩ : S81)]) ji4 ji16 a0_0 a0_1 a0_2 a0_3 a0_4 a0_5 a0_6 a0_7 a0_8 l0_9) else (none)) else (some (([] : List (S81)), t793))) = some (r1, r2) := H
              have A24 := Aside0.mk A240;clear A240
              by_cases c25 : t793 = 0
              ·
               rw [if_pos c25] at H
               have c25b0 : (t793 == 0) = true := beq_iff_eq.mpr c25
               have c25b1 : (t793 != 0) = false := bne_eq_false_iff_eq.mpr c25
               clear c25
               by_cases c26 : x6_1.length < 3518437208883
               ·
                rw [if_pos c26] at H
                have LMc26 := Aside0.mk c26;clear c26
                obtain ⟨y794, hy794⟩ : ∃ y_ : List (S81), y_ = (x6_1 ++ [(⟨rd t778 x24_1, rd t778 (ji16), t788, t790, t792⟩ : S81)]) := ⟨_, rfl⟩
                replace H : (sched_Periods.l0 k1 t778 y794 ji4 ji16 a0_0 a0_1 a0_2 a0_3 a0_4 a0_5 a0_6 a0_7 a0_8 l0_9) = some (r1, r2) := by first | (rw [hy794]; with_reducible exact H) | (have H2_ := (Option.bind_some _ _).symm.trans H; rw [hy794]; with_reducible exact H2_) | (have H2_ := (Option.bind_some _ _).symm.trans H; with_reducible exact H2_) | with_reducible exact H | (rw [hy794]; exact H) | exact H
                have Ny794 := Aside0.mk hy794;clear hy794;have H' := Aside0.mk H;clear H
                try go_wp2
                have n0_ := Aside0.mk (Kd.R_drew HO_4.out)
                have n1_ := Aside0.mk (Kd.R_drew HO_6.out)
                have n2_ := Aside0.mk (blk_drew BK777.out)
                have n3_ := Aside0.mk (below_drew1 HB.out)
                clear HO_4 HO_6 BK777 HB;have HO_4 := n0_;have HO_6 := n1_;have BK777 := n2_;have HB := n3_;clear n0_ n1_ n2_ n3_
                have p785 : 0 ≤ (x24_1 : Int) := of_decide_eq_true (by first | (with_reducible assumption) | assumption)
                have q785 : x24_1 < (t778.length : Int) := of_decide_eq_true (by first | (with_reducible assumption) | assumption)
                obtain ⟨ad785, e785, hx785_0⟩ := Kd.at_int (Kd.R_reads' HO_4.out).2.2 x24_1 p785 q785
                cases e785
                replace p785 := eq_true p785;replace q785 := eq_true q785
                have p786 : 0 ≤ ((ji16) : Int) := of_decide_eq_true (by first | (with_reducible assumption) | assumption)
                have q786 : (ji16) < (t778.length : Int) := of_decide_eq_true (by first | (with_reducible assumption) | assumption)
                obtain ⟨ad786, e786, hx786_0⟩ := Kd.at_int (Kd.R_reads' HO_4.out).2.2 (ji16) p786 q786
                obtain rfl : ad785 = ad786 := (by injection e786)
                replace p786 := eq_true p786;replace q786 := eq_true q786
                refine start_ (n := 12) (S := fun w' => w'.cell? (ad785.add (x24_1).toNat) = some (.int .i64 (rd t778 x24_1)) ∧ w'.cell? (ad785.add ((ji16)).toNat) = some (.int .i64 (rd t778 (ji16)))) (ds := []) #[false, false, false, false, false, false, false, false, false, false, false, false] (by kernel_rfl) rfl rfl ⟨hx785_0, hx786_0⟩ (fun hHeld => ?_); refine with_tabW sched_Periods.tab8 sched_Periods.bits8 (fun HT_ HW_ => ?_)
                generalize wr.drew = w27 at HO_4 HO_6 BK777 HB hx785_0 hx786_0 hHeld ⊢
                refine pure_ (i := 0) (N := some 27) (v := ?_) (a' := ?_) #[true, false, false, false, false, false, false, false, false, false, false, false] rfl rfl (any_of HT_.out (by kernel_rfl)) (fun _ _ _ h => h) (Or.inl ⟨by rfl, ?_⟩) ?_ ?_
                rotate_left
                ·
                 intro w'
                 go_simp
                 with_reducible rfl
                rotate_left
                ·
                 simp only [Act.put, List.setIfInBounds_toArray, List.set_cons_zero, List.set_cons_succ, i64_w, i32_w]
                 rfl
                refine pure_ (i := 1) (N := some 28) (v := ?_) (a' := ?_) #[true, true, false, false, false, false, false, false, false, false, false, false] rfl rfl (any_of HT_.out (by kernel_rfl)) (fun _ _ _ h => h) (Or.inl ⟨by rfl, ?_⟩) ?_ ?_
                rotate_left
                ·
                 intro w'
                 go_simp
                 with_reducible rfl
                rotate_left
                ·
                 simp only [Act.put, List.setIfInBounds_toArray, List.set_cons_zero, List.set_cons_succ, i64_w, i32_w]
                 rfl
                refine pure_ (i := 2) (N := some 29) (v := ?_) (a' := ?_) #[true, true, true, false, false, false, false, false, false, false, false, false] rfl rfl (any_of HT_.out (by kernel_rfl)) (fun _ _ _ h => h) (Or.inl ⟨by rfl, ?_⟩) ?_ ?_
                rotate_left
                ·
                 intro w'
                 go_simp
                 with_reducible rfl
                rotate_left
                ·
                 simp only [Act.put, List.setIfInBounds_toArray, List.set_cons_zero, List.set_cons_succ, i64_w, i32_w]
                 rfl
                refine pure_ (i := 4) (N := some 31) (v := ?_) (a' := ?_) #[true, true, true, false, true, false, false, false, false, false, false, false] rfl rfl (any_of HT_.out (by kernel_rfl)) (fun _ _ _ h => h) (Or.inl ⟨by rfl, ?_⟩) ?_ ?_
                rotate_left
                ·
                 intro w'
                 go_simp
                 with_reducible rfl
                rotate_left
                ·
                 simp only [Act.put, List.setIfInBounds_toArray, List.set_cons_zero, List.set_cons_succ, i64_w, i32_w]
                 rfl
                refine pure_ (i := 5) (N := some 32) (v := ?_) (a' := ?_) #[true, true, true, false, true, true, false, false, false, false, false, false] rfl rfl (any_of HT_.out (by kernel_rfl)) (fun _ _ _ h => h) (Or.inl ⟨by rfl, ?_⟩) ?_ ?_
                rotate_left
                ·
                 intro w'
                 go_simp
                 with_reducible rfl
                rotate_left
                ·
                 simp only [Act.put, List.setIfInBounds_toArray, List.set_cons_zero, List.set_cons_succ, i64_w, i32_w]
                 rfl
                refine pure_ (i := 6) (N := some 33) (v := ?_) (a' := ?_) #[true, true, true, false, true, true, true, false, false, false, false, false] rfl rfl (any_of HT_.out (by kernel_rfl)) (fun _ _ _ h => h) (Or.inl ⟨by rfl, ?_⟩) ?_ ?_
                rotate_left
                ·
                 intro w'
                 go_simp
                 with_reducible rfl
                rotate_left
                ·
                 simp only [Act.put, List.setIfInBounds_toArray, List.set_cons_zero, List.set_cons_succ, i64_w, i32_w]
                 rfl
                refine pure_ (i := 7) (N := some 34) (v := ?_) (a' := ?_) #[true, true, true, false, true, true, true, true, false, false, false, false] rfl rfl (any_of HT_.out (by kernel_rfl)) (fun _ _ _ h => h) (Or.inl ⟨by rfl, ?_⟩) ?_ ?_
                rotate_left
                ·
                 intro w'
                 go_simp
                 with_reducible rfl
                rotate_left
                ·
                 simp only [Act.put, List.setIfInBounds_toArray, List.set_cons_zero, List.set_cons_succ, i64_w, i32_w]
                 rfl
                refine take_ (i := 3) (N := some 30) (v := ?_) (a' := ?_) #[true, true, true, true, true, true, true, true, false, false, false, false] rfl rfl (take_ofW HT_.out HW_.out (by kernel_rfl)) (fun _ _ _ h => h) (Or.inl ⟨by rfl, ?_⟩) hHeld ?_ ?_
                rotate_left
                ·
                 rintro w' ⟨s0, s1⟩
                 go_simp
                 with_reducible rfl
                rotate_left
                ·
                 simp only [Act.put, List.setIfInBounds_toArray, List.set_cons_zero, List.set_cons_succ, i64_w, i32_w]
                 rfl
                refine take_ (i := 8) (N := some 35) (v := ?_) (a' := ?_) #[true, true, true, true, true, true, true, true, true, false, false, false] rfl rfl (take_ofW HT_.out HW_.out (by kernel_rfl)) (fun _ _ _ h => h) (Or.inl ⟨by rfl, ?_⟩) hHeld ?_ ?_
                rotate_left
                ·
                 rintro w' ⟨s0, s1⟩
                 go_simp
                 with_reducible rfl
                rotate_left
                ·
                 simp only [Act.put, List.setIfInBounds_toArray, List.set_cons_zero, List.set_cons_succ, i64_w, i32_w]
                 rfl
                refine pure_ (i := 9) (N := some 36) (v := ?_) (a' := ?_) #[true, true, true, true, true, true, true, true, true, true, false, false] rfl rfl (any_of HT_.out (by kernel_rfl)) (fun _ _ _ h => h) (Or.inl ⟨by rfl, ?_⟩) ?_ ?_
                rotate_left
                ·
                 intro w'
                 go_simp
                 with_reducible rfl
                rotate_left
                ·
                 simp only [Act.put, List.setIfInBounds_toArray, List.set_cons_zero, List.set_cons_succ, i64_w, i32_w]
                 rfl
                refine one_ (i := 10) (N := some 8) #[true, true, true, true, true, true, true, true, true, true, true, false] rfl rfl (one_of HT_.out (by kernel_rfl)) (by decide) (fun K hK => ?_)
                refine box_step ?hg (N := 8) ?hd (cs := #[.int .i64 0, .int .i64 0, .int .i64 0, .int .i64 0, .int .i64 0]) (t := 81) ?hr ?_; (case hd => rfl); (case hg => rfl); (case hr => first | (go_simp; done) | (go_simp; rfl))
                intro gb787 hg w28 hbox hb
                have HS0_ := (hb.cell (World.block_lt_of_cell? _ _ (hHeld.1))).trans (hHeld.1)
                have HS1_ := (hb.cell (World.block_lt_of_cell? _ _ (hHeld.2))).trans (hHeld.2)
                have n0_ := Aside0.mk (Kd.R_below (by (with_reducible repeat (first | apply Kd.R_alloc | apply Kd.R_drewN | apply Kd.R_drew)); exact HO_4.out) hb)
                have n1_ := Aside0.mk (Kd.R_below (Kd.R_elderB (by (with_reducible repeat (first | apply Kd.R_alloc | apply Kd.R_drewN | apply Kd.R_drew)); exact HO_6.out) gb787 (Nat.le_of_eq hg.symm)) hb)
                have n2_ := Aside0.mk (blk_below (g := gb777) (o := .cells #[.int .i64 a0_0, .int .i64 a0_1, .int .i64 a0_2, .int .i64 a0_3, .int .i64 a0_4, .int .i64 a0_5, .int .i64 a0_6, .int .i64 a0_7, .int .i64 a0_8, .slice A0_9 l0_9.length c0_9] 66 (0, 0)) (by (with_reducible repeat (first | refine blk_drewN ?_ _ | refine blk_drew ?_ | refine blk_alloc ?_ _)); exact BK777.out) hb)
                have n3_ := Aside0.mk (below_step (by repeat (first | (with_reducible first | exact HB.out | apply below_alloc | apply pw_below_drewN | apply below_drew1 | refine below_set ?_ GE777.out) | exact HB.out)) hb)
                have n4_ := Aside0.mk (hbox)
                have n5_ := Aside0.mk ((by rw [hg]; exact (below_size (by repeat (first | (with_reducible first | exact HB.out | apply below_alloc | apply pw_below_drewN | apply below_drew1 | refine below_set ?_ GE777.out) | exact HB.out))) : w.heap.size ≤ gb787))
                have n6_ := Aside0.mk ((by rw [hg]; exact (below_size (by repeat (first | (with_reducible first | exact HB.out | apply below_alloc | apply pw_below_drewN | apply below_drew1 | refine below_set ?_ GE777.out) | exact HB.out))) : w.heap.size ≤ gb787))
                have n7_ := Aside0.mk ((by rw [hg]; exact Nat.ne_of_lt (blk_lt (g := gb777) (o := .cells #[.int .i64 a0_0, .int .i64 a0_1, .int .i64 a0_2, .int .i64 a0_3, .int .i64 a0_4, .int .i64 a0_5, .int .i64 a0_6, .int .i64 a0_7, .int .i64 a0_8, .slice A0_9 l0_9.length c0_9] 66 (0, 0)) (by (with_reducible repeat (first | refine blk_drewN ?_ _ | refine blk_drew ?_ | refine blk_alloc ?_ _)); exact BK777.out)) : gb777 ≠ gb787))
                have n8_ := Aside0.mk ((by rw [hg]; exact Nat.ne_of_gt (blk_lt (g := gb777) (o := .cells #[.int .i64 a0_0, .int .i64 a0_1, .int .i64 a0_2, .int .i64 a0_3, .int .i64 a0_4, .int .i64 a0_5, .int .i64 a0_6, .int .i64 a0_7, .int .i64 a0_8, .slice A0_9 l0_9.length c0_9] 66 (0, 0)) (by (with_reducible repeat (first | refine blk_drewN ?_ _ | refine blk_drew ?_ | refine blk_alloc ?_ _)); exact BK777.out)) : gb787 ≠ gb777))
                clear HO_4 HO_6 BK777 HB;have HO_4 := n0_;have HO_6 := n1_;have BK777 := n2_;have HB := n3_;have BK787 := n4_;have GW787 := n5_;have GE787 := n6_;have NB777_787 := n7_;have NB787_777 := n8_;clear n0_ n1_ n2_ n3_ n4_ n5_ n6_ n7_ n8_ hb hbox hg
                refine hK.out _ _ ⟨HS0_, HS1_⟩ (fun hHeld => ?_)
                clear hK K
                refine norm_ (a' := ?_) ?_ ?_
                rotate_left
                ·
                 show Act.put _ (some 8) _ = _
                 simp only [Act.put, List.setIfInBounds_toArray, List.set_cons_zero, List.set_cons_succ, i64_w, i32_w]
                 rfl
                refine one_ (i := 11) (N := none) #[true, true, true, true, true, true, true, true, true, true, true, true] rfl rfl (one_of HT_.out (by kernel_rfl)) (by decide) (fun K hK => ?_)
                have hs29 : w28.cell? ⟨gb787, 0, none⟩ = some (.int .i64 0) := (blk_cell BK787.out 0).trans rfl
                have hfs29 := blk_frozen BK787.out 0;have hns29_0 := NB777_787.out;have hms29_0 := NB787_777.out
                have hs30 : w28.cell? ⟨gb787, 1, none⟩ = some (.int .i64 0) := (blk_cell BK787.out 1).trans rfl
                have hfs30 := blk_frozen BK787.out 1;have hns30_0 := NB777_787.out;have hms30_0 := NB787_777.out
                have hs31 : w28.cell? ⟨gb787, 2, none⟩ = some (.int .i64 0) := (blk_cell BK787.out 2).trans rfl
                have hfs31 := blk_frozen BK787.out 2;have hns31_0 := NB777_787.out;have hms31_0 := NB787_777.out
                have hs32 : w28.cell? ⟨gb787, 3, none⟩ = some (.int .i64 0) := (blk_cell BK787.out 3).trans rfl
                have hfs32 := blk_frozen BK787.out 3;have hns32_0 := NB777_787.out;have hms32_0 := NB787_777.out
                have hs33 : w28.cell? ⟨gb787, 4, none⟩ = some (.int .i64 0) := (blk_cell BK787.out 4).trans rfl
                have hfs33 := blk_frozen BK787.out 4;have hns33_0 := NB777_787.out;have hms33_0 := NB787_777.out
                refine skip_ (w1 := ?_) (by rfl) rfl ?_ ?_
                rotate_left
                ·
                 go_simp
                 rfl
                refine hK.out _ _ ⟨((cell_far (p := ⟨gb787, _, none⟩) (by first | exact Kd.own_blk (Kd.R_ne HO_4.out BK787.out (by decide)) | (rw [add_block]; exact Kd.own_blk (Kd.R_ne HO_4.out BK787.out (by decide))) | (show (Addr.add _ _).block ≠ _; rw [add_block]; exact Kd.own_blk (Kd.R_ne HO_4.out BK787.out (by decide))) | (dsimp only; exact Kd.own_blk (Kd.R_ne HO_4.out BK787.out (by decide)))) _).trans (((cell_far (p := ⟨gb787, _, none⟩) (by first | exact Kd.own_blk (Kd.R_ne HO_4.out BK787.out (by decide)) | (rw [add_block]; exact Kd.own_blk (Kd.R_ne HO_4.out BK787.out (by decide))) | (show (Addr.add _ _).block ≠ _; rw [add_block]; exact Kd.own_blk (Kd.R_ne HO_4.out BK787.out (by decide))) | (dsimp only; exact Kd.own_blk (Kd.R_ne HO_4.out BK787.out (by decide)))) _).trans (((cell_far (p := ⟨gb787, _, none⟩) (by first | exact Kd.own_blk (Kd.R_ne HO_4.out BK787.out (by decide)) | (rw [add_block]; exact Kd.own_blk (Kd.R_ne HO_4.out BK787.out (by decide))) | (show (Addr.add _ _).block ≠ _; rw [add_block]; exact Kd.own_blk (Kd.R_ne HO_4.out BK787.out (by decide))) | (dsimp only; exact Kd.own_blk (Kd.R_ne HO_4.out BK787.out (by decide)))) _).trans (((cell_far (p := ⟨gb787, _, none⟩) (by first | exact Kd.own_blk (Kd.R_ne HO_4.out BK787.out (by decide)) | (rw [add_block]; exact Kd.own_blk (Kd.R_ne HO_4.out BK787.out (by decide))) | (show (Addr.add _ _).block ≠ _; rw [add_block]; exact Kd.own_blk (Kd.R_ne HO_4.out BK787.out (by decide))) | (dsimp only; exact Kd.own_blk (Kd.R_ne HO_4.out BK787.out (by decide)))) _).trans (((cell_far (p := ⟨gb787, _, none⟩) (by first | exact Kd.own_blk (Kd.R_ne HO_4.out BK787.out (by decide)) | (rw [add_block]; exact Kd.own_blk (Kd.R_ne HO_4.out BK787.out (by decide))) | (show (Addr.add _ _).block ≠ _; rw [add_block]; exact Kd.own_blk (Kd.R_ne HO_4.out BK787.out (by decide))) | (dsimp only; exact Kd.own_blk (Kd.R_ne HO_4.out BK787.out (by decide)))) _).trans (hHeld.1)))))))))), ((cell_far (p := ⟨gb787, _, none⟩) (by first | exact Kd.own_blk (Kd.R_ne HO_4.out BK787.out (by decide)) | (rw [add_block]; exact Kd.own_blk (Kd.R_ne HO_4.out BK787.out (by decide))) | (show (Addr.add _ _).block ≠ _; rw [add_block]; exact Kd.own_blk (Kd.R_ne HO_4.out BK787.out (by decide))) | (dsimp only; exact Kd.own_blk (Kd.R_ne HO_4.out BK787.out (by decide)))) _).trans (((cell_far (p := ⟨gb787, _, none⟩) (by first | exact Kd.own_blk (Kd.R_ne HO_4.out BK787.out (by decide)) | (rw [add_block]; exact Kd.own_blk (Kd.R_ne HO_4.out BK787.out (by decide))) | (show (Addr.add _ _).block ≠ _; rw [add_block]; exact Kd.own_blk (Kd.R_ne HO_4.out BK787.out (by decide))) | (dsimp only; exact Kd.own_blk (Kd.R_ne HO_4.out BK787.out (by decide)))) _).trans (((cell_far (p := ⟨gb787, _, none⟩) (by first | exact Kd.own_blk (Kd.R_ne HO_4.out BK787.out (by decide)) | (rw [add_block]; exact Kd.own_blk (Kd.R_ne HO_4.out BK787.out (by decide))) | (show (Addr.add _ _).block ≠ _; rw [add_block]; exact Kd.own_blk (Kd.R_ne HO_4.out BK787.out (by decide))) | (dsimp only; exact Kd.own_blk (Kd.R_ne HO_4.out BK787.out (by decide)))) _).trans (((cell_far (p := ⟨gb787, _, none⟩) (by first | exact Kd.own_blk (Kd.R_ne HO_4.out BK787.out (by decide)) | (rw [add_block]; exact Kd.own_blk (Kd.R_ne HO_4.out BK787.out (by decide))) | (show (Addr.add _ _).block ≠ _; rw [add_block]; exact Kd.own_blk (Kd.R_ne HO_4.out BK787.out (by decide))) | (dsimp only; exact Kd.own_blk (Kd.R_ne HO_4.out BK787.out (by decide)))) _).trans (((cell_far (p := ⟨gb787, _, none⟩) (by first | exact Kd.own_blk (Kd.R_ne HO_4.out BK787.out (by decide)) | (rw [add_block]; exact Kd.own_blk (Kd.R_ne HO_4.out BK787.out (by decide))) | (show (Addr.add _ _).block ≠ _; rw [add_block]; exact Kd.own_blk (Kd.R_ne HO_4.out BK787.out (by decide))) | (dsimp only; exact Kd.own_blk (Kd.R_ne HO_4.out BK787.out (by decide)))) _).trans (hHeld.2))))))))))⟩ (fun hHeld => ?_)
                clear hK K
                refine done_ (done_of HT_.out (by kernel_rfl)) ?_
                have hnb34 := NB777_787.out;have hnc34 := NB787_777.out
                have hcz35_0 : w28.cell? ⟨gb777, 0, none⟩ = some (.int .i64 a0_0) := (blk_cell BK777.out 0).trans rfl
                have hcz35_1 : w28.cell? ⟨gb777, 1, none⟩ = some (.int .i64 a0_1) := (blk_cell BK777.out 1).trans rfl
                have hcz35_2 : w28.cell? ⟨gb777, 2, none⟩ = some (.int .i64 a0_2) := (blk_cell BK777.out 2).trans rfl
                have hcz35_3 : w28.cell? ⟨gb777, 3, none⟩ = some (.int .i64 a0_3) := (blk_cell BK777.out 3).trans rfl
                have hcz35_4 : w28.cell? ⟨gb777, 4, none⟩ = some (.int .i64 a0_4) := (blk_cell BK777.out 4).trans rfl
                have hcz35_5 : w28.cell? ⟨gb777, 5, none⟩ = some (.int .i64 a0_5) := (blk_cell BK777.out 5).trans rfl
                have hcz35_6 : w28.cell? ⟨gb777, 6, none⟩ = some (.int .i64 a0_6) := (blk_cell BK777.out 6).trans rfl
                have hcz35_7 : w28.cell? ⟨gb777, 7, none⟩ = some (.int .i64 a0_7) := (blk_cell BK777.out 7).trans rfl
                have hcz35_8 : w28.cell? ⟨gb777, 8, none⟩ = some (.int .i64 a0_8) := (blk_cell BK777.out 8).trans rfl
                have hcz35_9 : w28.cell? ⟨gb777, 9, none⟩ = some (.slice A0_9 l0_9.length c0_9) := (blk_cell BK777.out 9).trans rfl
                have hfz35_0 := blk_frozen BK777.out 0;have hfz35_1 := blk_frozen BK777.out 1;have hfz35_2 := blk_frozen BK777.out 2;have hfz35_3 := blk_frozen BK777.out 3;have hfz35_4 := blk_frozen BK777.out 4;have hfz35_5 := blk_frozen BK777.out 5;have hfz35_6 := blk_frozen BK777.out 6;have hfz35_7 := blk_frozen BK777.out 7;have hfz35_8 := blk_frozen BK777.out 8;have hfz35_9 := blk_frozen BK777.out 9
                have hcz36_0 : w28.cell? ⟨gb787, 0, none⟩ = some (.int .i64 0) := (blk_cell BK787.out 0).trans rfl
                have hcz36_1 : w28.cell? ⟨gb787, 1, none⟩ = some (.int .i64 0) := (blk_cell BK787.out 1).trans rfl
                have hcz36_2 : w28.cell? ⟨gb787, 2, none⟩ = some (.int .i64 0) := (blk_cell BK787.out 2).trans rfl
                have hcz36_3 : w28.cell? ⟨gb787, 3, none⟩ = some (.int .i64 0) := (blk_cell BK787.out 3).trans rfl
                have hcz36_4 : w28.cell? ⟨gb787, 4, none⟩ = some (.int .i64 0) := (blk_cell BK787.out 4).trans rfl
                have hfz36_0 := blk_frozen BK787.out 0;have hfz36_1 := blk_frozen BK787.out 1;have hfz36_2 := blk_frozen BK787.out 2;have hfz36_3 := blk_frozen BK787.out 3;have hfz36_4 := blk_frozen BK787.out 4
                try go_wp2_with (first | ((with_reducible refine gate_callee (f := 38) rfl ?_); refine goesL_ (some 44) rfl rfl Try.func38 (by kernel_rfl) rfl #[.agg #[.int .i64 a0_8, .slice A0_9 l0_9.length c0_9], .int .i64 (rd t778 x24_1), .int .i64 a0_6] rfl (by (try simp only [List.map_toArray, List.map_cons, List.map_nil]); first | done | rfl | (simp only [List.length_drop, List.length_take]; rfl)) ?_; (with_reducible refine (cal_Adjust.calls a0_8 _ _ l0_9 (rd t778 x24_1) a0_6 t788 t789 _ ?side1 ?side2 A19.out).mono ?_); (case side1 => exact Kd.C_below HR0_9.out (by repeat (first | (with_reducible first | exact HB.out | apply below_alloc | apply pw_below_drewN | apply below_drew1 | refine below_set ?_ GE777.out | refine below_set ?_ GE787.out) | exact HB.out))); (case side2 => exact HC0_9.out); rintro e w37 ⟨rfl, hb⟩; refine ⟨_, rfl, ?_⟩; have n0_ := Aside0.mk (Kd.R_below (by (with_reducible repeat (first | apply Kd.R_alloc | apply Kd.R_drewN | apply Kd.R_drew)); exact (Kd.R_mono (Kd.R_far (p := ⟨gb787, 4, none⟩) (Kd.R_far (p := ⟨gb787, 3, none⟩) (Kd.R_far (p := ⟨gb787, 2, none⟩) (Kd.R_far (p := ⟨gb787, 1, none⟩) (Kd.R_far (p := ⟨gb787, 0, none⟩) (Kd.R_types HO_4.out BK787.out (by decide)) (fun _ hk => hk.2) (.int .i64 (rd t778 x24_1))) (fun _ hk => hk.2) (.int .i64 (rd t778 (ji16)))) (fun _ hk => hk.2) (.int .i64 0)) (fun _ hk => hk.2) (.int .i64 0)) (fun _ hk => hk.2) (.int .i64 0)) (fun _ h_ => h_.1))) hb); have n1_ := Aside0.mk (Kd.R_below (by (with_reducible repeat (first | apply Kd.R_alloc | apply Kd.R_drewN | apply Kd.R_drew)); exact (Kd.R_mono (Kd.R_far (p := ⟨gb787, 4, none⟩) (Kd.R_far (p := ⟨gb787, 3, none⟩) (Kd.R_far (p := ⟨gb787, 2, none⟩) (Kd.R_far (p := ⟨gb787, 1, none⟩) (Kd.R_far (p := ⟨gb787, 0, none⟩) (Kd.R_mono HO_6.out (fun k_ hk => (⟨hk, hk.2⟩ : _ ∧ k_ ≠ gb787))) (fun _ hk => hk.2) (.int .i64 (rd t778 x24_1))) (fun _ hk => hk.2) (.int .i64 (rd t778 (ji16)))) (fun _ hk => hk.2) (.int .i64 0)) (fun _ hk => hk.2) (.int .i64 0)) (fun _ hk => hk.2) (.int .i64 0)) (fun _ h_ => h_.1))) hb); have n2_ := Aside0.mk (blk_below (g := gb777) (o := .cells #[.int .i64 a0_0, .int .i64 a0_1, .int .i64 a0_2, .int .i64 a0_3, .int .i64 a0_4, .int .i64 a0_5, .int .i64 a0_6, .int .i64 a0_7, .int .i64 a0_8, .slice A0_9 l0_9.length c0_9] 66 (0, 0)) (by (with_reducible repeat (first | refine blk_drewN ?_ _ | refine blk_drew ?_ | refine blk_alloc ?_ _)); refine blk_far ?_ NB777_787.out _; (with_reducible repeat (first | refine blk_drewN ?_ _ | refine blk_drew ?_ | refine blk_alloc ?_ _)); refine blk_far ?_ NB777_787.out _; (with_reducible repeat (first | refine blk_drewN ?_ _ | refine blk_drew ?_ | refine blk_alloc ?_ _)); refine blk_far ?_ NB777_787.out _; (with_reducible repeat (first | refine blk_drewN ?_ _ | refine blk_drew ?_ | refine blk_alloc ?_ _)); refine blk_far ?_ NB777_787.out _; (with_reducible repeat (first | refine blk_drewN ?_ _ | refine blk_drew ?_ | refine blk_alloc ?_ _)); refine blk_far ?_ NB777_787.out _; (with_reducible repeat (first | refine blk_drewN ?_ _ | refine blk_drew ?_ | refine blk_alloc ?_ _)); exact BK777.out) hb); have n3_ := Aside0.mk (blk_below (g := gb787) (o := .cells #[.int .i64 (rd t778 x24_1), .int .i64 (rd t778 (ji16)), .int .i64 0, .int .i64 0, .int .i64 0] 81 (0, 0)) (by (with_reducible repeat (first | refine blk_drewN ?_ _ | refine blk_drew ?_ | refine blk_alloc ?_ _)); refine blk_put (cs := #[.int .i64 (rd t778 x24_1), .int .i64 (rd t778 (ji16)), .int .i64 0, .int .i64 0, .int .i64 0]) ?_ 4 _ rfl; (with_reducible repeat (first | refine blk_drewN ?_ _ | refine blk_drew ?_ | refine blk_alloc ?_ _)); refine blk_put (cs := #[.int .i64 (rd t778 x24_1), .int .i64 (rd t778 (ji16)), .int .i64 0, .int .i64 0, .int .i64 0]) ?_ 3 _ rfl; (with_reducible repeat (first | refine blk_drewN ?_ _ | refine blk_drew ?_ | refine blk_alloc ?_ _)); refine blk_put (cs := #[.int .i64 (rd t778 x24_1), .int .i64 (rd t778 (ji16)), .int .i64 0, .int .i64 0, .int .i64 0]) ?_ 2 _ rfl; (with_reducible repeat (first | refine blk_drewN ?_ _ | refine blk_drew ?_ | refine blk_alloc ?_ _)); refine blk_put (cs := #[.int .i64 (rd t778 x24_1), .int .i64 0, .int .i64 0, .int .i64 0, .int .i64 0]) ?_ 1 _ rfl; (with_reducible repeat (first | refine blk_drewN ?_ _ | refine blk_drew ?_ | refine blk_alloc ?_ _)); refine blk_put (cs := #[.int .i64 0, .int .i64 0, .int .i64 0, .int .i64 0, .int .i64 0]) ?_ 0 _ rfl; (with_reducible repeat (first | refine blk_drewN ?_ _ | refine blk_drew ?_ | refine blk_alloc ?_ _)); exact BK787.out) hb); have n4_ := Aside0.mk (below_step (by repeat (first | (with_reducible first | exact HB.out | apply below_alloc | apply pw_below_drewN | apply below_drew1 | refine below_set ?_ GE777.out | refine below_set ?_ GE787.out) | exact HB.out)) hb); clear HO_4; clear HO_6; clear BK777; clear BK787; clear HB; have HO_4 := n0_; have HO_6 := n1_; have BK777 := n2_; have BK787 := n3_; have HB := n4_; clear n0_ n1_ n2_ n3_ n4_; (try clear hb); (try clear hb2); (try clear hk); (try clear hi); have hcz38_0 : w37.cell? ⟨gb787, 0, none⟩ = some (.int .i64 (rd t778 x24_1)) := (blk_cell BK787.out 0).trans rfl; have hcz38_1 : w37.cell? ⟨gb787, 1, none⟩ = some (.int .i64 (rd t778 (ji16))) := (blk_cell BK787.out 1).trans rfl; have hcz38_2 : w37.cell? ⟨gb787, 2, none⟩ = some (.int .i64 0) := (blk_cell BK787.out 2).trans rfl; have hcz38_3 : w37.cell? ⟨gb787, 3, none⟩ = some (.int .i64 0) := (blk_cell BK787.out 3).trans rfl; have hcz38_4 : w37.cell? ⟨gb787, 4, none⟩ = some (.int .i64 0) := (blk_cell BK787.out 4).trans rfl; have hfz38_0 := blk_frozen BK787.out 0; have hfz38_1 := blk_frozen BK787.out 1; have hfz38_2 := blk_frozen BK787.out 2; have hfz38_3 := blk_frozen BK787.out 3; have hfz38_4 := blk_frozen BK787.out 4; have hcz39_0 : w37.cell? ⟨gb777, 0, none⟩ = some (.int .i64 a0_0) := (blk_cell BK777.out 0).trans rfl; have hcz39_1 : w37.cell? ⟨gb777, 1, none⟩ = some (.int .i64 a0_1) := (blk_cell BK777.out 1).trans rfl; have hcz39_2 : w37.cell? ⟨gb777, 2, none⟩ = some (.int .i64 a0_2) := (blk_cell BK777.out 2).trans rfl; have hcz39_3 : w37.cell? ⟨gb777, 3, none⟩ = some (.int .i64 a0_3) := (blk_cell BK777.out 3).trans rfl; have hcz39_4 : w37.cell? ⟨gb777, 4, none⟩ = some (.int .i64 a0_4) := (blk_cell BK777.out 4).trans rfl; have hcz39_5 : w37.cell? ⟨gb777, 5, none⟩ = some (.int .i64 a0_5) := (blk_cell BK777.out 5).trans rfl; have hcz39_6 : w37.cell? ⟨gb777, 6, none⟩ = some (.int .i64 a0_6) := (blk_cell BK777.out 6).trans rfl; have hcz39_7 : w37.cell? ⟨gb777, 7, none⟩ = some (.int .i64 a0_7) := (blk_cell BK777.out 7).trans rfl; have hcz39_8 : w37.cell? ⟨gb777, 8, none⟩ = some (.int .i64 a0_8) := (blk_cell BK777.out 8).trans rfl; have hcz39_9 : w37.cell? ⟨gb777, 9, none⟩ = some (.slice A0_9 l0_9.length c0_9) := (blk_cell BK777.out 9).trans rfl; have hfz39_0 := blk_frozen BK777.out 0; have hfz39_1 := blk_frozen BK777.out 1; have hfz39_2 := blk_frozen BK777.out 2; have hfz39_3 := blk_frozen BK777.out 3; have hfz39_4 := blk_frozen BK777.out 4; have hfz39_5 := blk_frozen BK777.out 5; have hfz39_6 := blk_frozen BK777.out 6; have hfz39_7 := blk_frozen BK777.out 7; have hfz39_8 := blk_frozen BK777.out 8; have hfz39_9 := blk_frozen BK777.out 9) | ((with_reducible refine gate_callee (f := 38) rfl ?_); refine goesL_ (some 58) rfl rfl Try.func38 (by kernel_rfl) rfl #[.agg #[.int .i64 a0_8, .slice A0_9 l0_9.length c0_9], .int .i64 (rd t778 (ji16)), .int .i64 a0_6] rfl (by (try simp only [List.map_toArray, List.map_cons, List.map_nil]); first | done | (simp only [hji16]; rfl) | rfl | (simp only [List.length_drop, List.length_take]; rfl)) ?_; (with_reducible refine (cal_Adjust.calls a0_8 _ _ l0_9 (rd t778 (ji16)) a0_6 t790 t791 _ ?side1 ?side2 A21.out).mono ?_); (case side1 => exact Kd.C_below HR0_9.out (by repeat (first | (with_reducible first | exact HB.out | apply below_alloc | apply pw_below_drewN | apply below_drew1 | refine below_set ?_ GE777.out | refine below_set ?_ GE787.out) | exact HB.out))); (case side2 => exact HC0_9.out); rintro e w40 ⟨rfl, hb⟩; refine ⟨_, rfl, ?_⟩; have n0_ := Aside0.mk (Kd.R_below (by (with_reducible repeat (first | apply Kd.R_alloc | apply Kd.R_drewN | apply Kd.R_drew)); exact (Kd.R_mono (Kd.R_far (p := ⟨gb787, 2, none⟩) (Kd.R_types HO_4.out BK787.out (by decide)) (fun _ hk => hk.2) (.int .i64 t788)) (fun _ h_ => h_.1))) hb); have n1_ := Aside0.mk (Kd.R_below (by (with_reducible repeat (first | apply Kd.R_alloc | apply Kd.R_drewN | apply Kd.R_drew)); exact (Kd.R_mono (Kd.R_far (p := ⟨gb787, 2, none⟩) (Kd.R_mono HO_6.out (fun k_ hk => (⟨hk, hk.2⟩ : _ ∧ k_ ≠ gb787))) (fun _ hk => hk.2) (.int .i64 t788)) (fun _ h_ => h_.1))) hb); have n2_ := Aside0.mk (blk_below (g := gb777) (o := .cells #[.int .i64 a0_0, .int .i64 a0_1, .int .i64 a0_2, .int .i64 a0_3, .int .i64 a0_4, .int .i64 a0_5, .int .i64 a0_6, .int .i64 a0_7, .int .i64 a0_8, .slice A0_9 l0_9.length c0_9] 66 (0, 0)) (by (with_reducible repeat (first | refine blk_drewN ?_ _ | refine blk_drew ?_ | refine blk_alloc ?_ _)); refine blk_far ?_ NB777_787.out _; (with_reducible repeat (first | refine blk_drewN ?_ _ | refine blk_drew ?_ | refine blk_alloc ?_ _)); exact BK777.out) hb); have n3_ := Aside0.mk (blk_below (g := gb787) (o := .cells #[.int .i64 (rd t778 x24_1), .int .i64 (rd t778 (ji16)), .int .i64 t788, .int .i64 0, .int .i64 0] 81 (0, 0)) (by (with_reducible repeat (first | refine blk_drewN ?_ _ | refine blk_drew ?_ | refine blk_alloc ?_ _)); refine blk_put (cs := #[.int .i64 (rd t778 x24_1), .int .i64 (rd t778 (ji16)), .int .i64 0, .int .i64 0, .int .i64 0]) ?_ 2 _ rfl; (with_reducible repeat (first | refine blk_drewN ?_ _ | refine blk_drew ?_ | refine blk_alloc ?_ _)); exact BK787.out) hb); have n4_ := Aside0.mk (below_step (by repeat (first | (with_reducible first | exact HB.out | apply below_alloc | apply pw_below_drewN | apply below_drew1 | refine below_set ?_ GE777.out | refine below_set ?_ GE787.out) | exact HB.out)) hb); clear HO_4; clear HO_6; clear BK777; clear BK787; clear HB; have HO_4 := n0_; have HO_6 := n1_; have BK777 := n2_; have BK787 := n3_; have HB := n4_; clear n0_ n1_ n2_ n3_ n4_; (try clear hb); (try clear hb2); (try clear hk); (try clear hi); have hcz41_0 : w40.cell? ⟨gb787, 0, none⟩ = some (.int .i64 (rd t778 x24_1)) := (blk_cell BK787.out 0).trans rfl; have hcz41_1 : w40.cell? ⟨gb787, 1, none⟩ = some (.int .i64 (rd t778 (ji16))) := (blk_cell BK787.out 1).trans rfl; have hcz41_2 : w40.cell? ⟨gb787, 2, none⟩ = some (.int .i64 t788) := (blk_cell BK787.out 2).trans rfl; have hcz41_3 : w40.cell? ⟨gb787, 3, none⟩ = some (.int .i64 0) := (blk_cell BK787.out 3).trans rfl; have hcz41_4 : w40.cell? ⟨gb787, 4, none⟩ = some (.int .i64 0) := (blk_cell BK787.out 4).trans rfl; have hfz41_0 := blk_frozen BK787.out 0; have hfz41_1 := blk_frozen BK787.out 1; have hfz41_2 := blk_frozen BK787.out 2; have hfz41_3 := blk_frozen BK787.out 3; have hfz41_4 := blk_frozen BK787.out 4; have hcz42_0 : w40.cell? ⟨gb777, 0, none⟩ = some (.int .i64 a0_0) := (blk_cell BK777.out 0).trans rfl; have hcz42_1 : w40.cell? ⟨gb777, 1, none⟩ = some (.int .i64 a0_1) := (blk_cell BK777.out 1).trans rfl; have hcz42_2 : w40.cell? ⟨gb777, 2, none⟩ = some (.int .i64 a0_2) := (blk_cell BK777.out 2).trans rfl; have hcz42_3 : w40.cell? ⟨gb777, 3, none⟩ = some (.int .i64 a0_3) := (blk_cell BK777.out 3).trans rfl; have hcz42_4 : w40.cell? ⟨gb777, 4, none⟩ = some (.int .i64 a0_4) := (blk_cell BK777.out 4).trans rfl; have hcz42_5 : w40.cell? ⟨gb777, 5, none⟩ = some (.int .i64 a0_5) := (blk_cell BK777.out 5).trans rfl; have hcz42_6 : w40.cell? ⟨gb777, 6, none⟩ = some (.int .i64 a0_6) := (blk_cell BK777.out 6).trans rfl; have hcz42_7 : w40.cell? ⟨gb777, 7, none⟩ = some (.int .i64 a0_7) := (blk_cell BK777.out 7).trans rfl; have hcz42_8 : w40.cell? ⟨gb777, 8, none⟩ = some (.int .i64 a0_8) := (blk_cell BK777.out 8).trans rfl; have hcz42_9 : w40.cell? ⟨gb777, 9, none⟩ = some (.slice A0_9 l0_9.length c0_9) := (blk_cell BK777.out 9).trans rfl; have hfz42_0 := blk_frozen BK777.out 0; have hfz42_1 := blk_frozen BK777.out 1; have hfz42_2 := blk_frozen BK777.out 2; have hfz42_3 := blk_frozen BK777.out 3; have hfz42_4 := blk_frozen BK777.out 4; have hfz42_5 := blk_frozen BK777.out 5; have hfz42_6 := blk_frozen BK777.out 6; have hfz42_7 := blk_frozen BK777.out 7; have hfz42_8 := blk_frozen BK777.out 8; have hfz42_9 := blk_frozen BK777.out 9) | ((with_reducible refine gate_callee (f := 40) rfl ?_); refine goesL_ (some 78) rfl rfl Try.func40 (by kernel_rfl) rfl #[.agg #[.int .i64 a0_8, .slice A0_9 l0_9.length c0_9], .int .i64 t790, .int .i64 a0_7] rfl (by (try simp only [List.map_toArray, List.map_cons, List.map_nil]); first | done | rfl | (simp only [List.length_drop, List.length_take]; rfl)) ?_; (with_reducible refine (cal_Add.calls a0_8 _ _ l0_9 t790 a0_7 t792 t793 _ ?side1 ?side2 A24.out).mono ?_); (case side1 => exact Kd.C_below HR0_9.out (by repeat (first | (with_reducible first | exact HB.out | apply below_alloc | apply pw_below_drewN | apply below_drew1 | refine below_set ?_ GE777.out | refine below_set ?_ GE787.out) | exact HB.out))); (case side2 => exact HC0_9.out); rintro e w43 ⟨rfl, hb⟩; refine ⟨_, rfl, ?_⟩; have n0_ := Aside0.mk (Kd.R_below (by (with_reducible repeat (first | apply Kd.R_alloc | apply Kd.R_drewN | apply Kd.R_drew)); exact (Kd.R_mono (Kd.R_far (p := ⟨gb787, 4, none⟩) (Kd.R_far (p := ⟨gb787, 3, none⟩) (Kd.R_types HO_4.out BK787.out (by decide)) (fun _ hk => hk.2) (.int .i64 t790)) (fun _ hk => hk.2) (.int .i64 t790)) (fun _ h_ => h_.1))) hb); have n1_ := Aside0.mk (Kd.R_below (by (with_reducible repeat (first | apply Kd.R_alloc | apply Kd.R_drewN | apply Kd.R_drew)); exact (Kd.R_mono (Kd.R_far (p := ⟨gb787, 4, none⟩) (Kd.R_far (p := ⟨gb787, 3, none⟩) (Kd.R_mono HO_6.out (fun k_ hk => (⟨hk, hk.2⟩ : _ ∧ k_ ≠ gb787))) (fun _ hk => hk.2) (.int .i64 t790)) (fun _ hk => hk.2) (.int .i64 t790)) (fun _ h_ => h_.1))) hb); have n2_ := Aside0.mk (blk_below (g := gb777) (o := .cells #[.int .i64 a0_0, .int .i64 a0_1, .int .i64 a0_2, .int .i64 a0_3, .int .i64 a0_4, .int .i64 a0_5, .int .i64 a0_6, .int .i64 a0_7, .int .i64 a0_8, .slice A0_9 l0_9.length c0_9] 66 (0, 0)) (by (with_reducible repeat (first | refine blk_drewN ?_ _ | refine blk_drew ?_ | refine blk_alloc ?_ _)); refine blk_far ?_ NB777_787.out _; (with_reducible repeat (first | refine blk_drewN ?_ _ | refine blk_drew ?_ | refine blk_alloc ?_ _)); refine blk_far ?_ NB777_787.out _; (with_reducible repeat (first | refine blk_drewN ?_ _ | refine blk_drew ?_ | refine blk_alloc ?_ _)); exact BK777.out) hb); have n3_ := Aside0.mk (blk_below (g := gb787) (o := .cells #[.int .i64 (rd t778 x24_1), .int .i64 (rd t778 (ji16)), .int .i64 t788, .int .i64 t790, .int .i64 t790] 81 (0, 0)) (by (with_reducible repeat (first | refine blk_drewN ?_ _ | refine blk_drew ?_ | refine blk_alloc ?_ _)); refine blk_put (cs := #[.int .i64 (rd t778 x24_1), .int .i64 (rd t778 (ji16)), .int .i64 t788, .int .i64 t790, .int .i64 0]) ?_ 4 _ rfl; (with_reducible repeat (first | refine blk_drewN ?_ _ | refine blk_drew ?_ | refine blk_alloc ?_ _)); refine blk_put (cs := #[.int .i64 (rd t778 x24_1), .int .i64 (rd t778 (ji16)), .int .i64 t788, .int .i64 0, .int .i64 0]) ?_ 3 _ rfl; (with_reducible repeat (first | refine blk_drewN ?_ _ | refine blk_drew ?_ | refine blk_alloc ?_ _)); exact BK787.out) hb); have n4_ := Aside0.mk (below_step (by repeat (first | (with_reducible first | exact HB.out | apply below_alloc | apply pw_below_drewN | apply below_drew1 | refine below_set ?_ GE777.out | refine below_set ?_ GE787.out) | exact HB.out)) hb); clear HO_4; clear HO_6; clear BK777; clear BK787; clear HB; have HO_4 := n0_; have HO_6 := n1_; have BK777 := n2_; have BK787 := n3_; have HB := n4_; clear n0_ n1_ n2_ n3_ n4_; (try clear hb); (try clear hb2); (try clear hk); (try clear hi); have hcz44_0 : w43.cell? ⟨gb787, 0, none⟩ = some (.int .i64 (rd t778 x24_1)) := (blk_cell BK787.out 0).trans rfl; have hcz44_1 : w43.cell? ⟨gb787, 1, none⟩ = some (.int .i64 (rd t778 (ji16))) := (blk_cell BK787.out 1).trans rfl; have hcz44_2 : w43.cell? ⟨gb787, 2, none⟩ = some (.int .i64 t788) := (blk_cell BK787.out 2).trans rfl; have hcz44_3 : w43.cell? ⟨gb787, 3, none⟩ = some (.int .i64 t790) := (blk_cell BK787.out 3).trans rfl; have hcz44_4 : w43.cell? ⟨gb787, 4, none⟩ = some (.int .i64 t790) := (blk_cell BK787.out 4).trans rfl; have hfz44_0 := blk_frozen BK787.out 0; have hfz44_1 := blk_frozen BK787.out 1; have hfz44_2 := blk_frozen BK787.out 2; have hfz44_3 := blk_frozen BK787.out 3; have hfz44_4 := blk_frozen BK787.out 4) | ((with_reducible refine gate_builtin (b := .append) (xs := #[.tmp 85, .tmp 87]) rfl ?_); at_builtin; refine Kd.R_append k81 (w0 := w) w.heap.size rfl (.tmp 85) (.tmp 87) 74 81 (.agg #[(.int .i64 0), (.int .i64 0), (.int .i64 0), (.int .i64 0), (.int .i64 0)]) 40 rfl Try.underlying74 info81 rfl (by decide) (by omega) u6 x6_1 (⟨rd t778 x24_1, rd t778 (ji16), t788, t790, t792⟩ : S81) [.int .i64 (rd t778 x24_1), .int .i64 (rd t778 (ji16)), .int .i64 t788, .int .i64 t790, .int .i64 t792] (fun k_ => k_ ≠ gb787) (fun _ => False) rfl (by first | (go_simp; done) | (go_simp; rfl)) ?aP (fun _ hk => hk.elim) ?aF ?aO ?aB ?aS ?aL ?_; (case aP => exact k81_mkM _ _ _ (⟨rd t778 x24_1, rd t778 (ji16), t788, t790, t792⟩ : S81)); (case aB => exact (by repeat (first | (with_reducible first | exact HB.out | apply below_alloc | apply pw_below_drewN | apply below_drew1 | refine below_set ?_ GE777.out | refine below_set ?_ GE787.out) | exact HB.out))); (case aF => exact (fun k_ hk => Kd.freshB (g := gb787) (o := .cells #[.int .i64 (rd t778 x24_1), .int .i64 (rd t778 (ji16)), .int .i64 t788, .int .i64 t790, .int .i64 t792] 81 (0, 0)) (by (with_reducible repeat (first | refine blk_drewN ?_ _ | refine blk_drew ?_ | refine blk_alloc ?_ _)); refine blk_put (cs := #[.int .i64 (rd t778 x24_1), .int .i64 (rd t778 (ji16)), .int .i64 t788, .int .i64 t790, .int .i64 t790]) ?_ 4 _ rfl; (with_reducible repeat (first | refine blk_drewN ?_ _ | refine blk_drew ?_ | refine blk_alloc ?_ _)); exact BK787.out) k_ hk)); (case aO => exact (by (with_reducible repeat (first | apply Kd.R_alloc | apply Kd.R_drewN | apply Kd.R_drew)); exact Kd.R_mono (Kd.R_far (p := ⟨gb787, 4, none⟩) (Kd.R_mono HO_6.out (fun k_ hk => (⟨hk, hk.2⟩ : _ ∧ k_ ≠ gb787))) (fun _ hk => hk.2) (.int .i64 t792)) (fun _ hk => hk.1.2))); (case aS => exact (below_size (by repeat (first | (with_reducible first | exact HB.out | apply below_alloc | apply pw_below_drewN | apply below_drew1 | refine below_set ?_ GE777.out | refine below_set ?_ GE787.out) | exact HB.out)))); (case aL => have := LMc26.out; omega); intro v795 w45 ho hb hg hat; rw [← Ny794.out] at ho; have n0_ := Aside0.mk (Kd.R_over' (by (with_reducible repeat (first | apply Kd.R_alloc | apply Kd.R_drewN | apply Kd.R_drew)); exact (Kd.R_mono (Kd.R_far (p := ⟨gb787, 4, none⟩) (Kd.R_types HO_4.out BK787.out (by decide)) (fun _ hk => hk.2) (.int .i64 t792)) (fun _ h_ => h_.1))) (Kd.R_typed (by (with_reducible repeat (first | apply Kd.R_alloc | apply Kd.R_drewN | apply Kd.R_drew)); exact (Kd.R_mono (Kd.R_far (p := ⟨gb787, 4, none⟩) (Kd.R_mono HO_6.out (fun k_ hk => (⟨hk, hk.2⟩ : _ ∧ k_ ≠ gb787))) (fun _ hk => hk.2) (.int .i64 t792)) (fun _ h_ => h_.1)))) (by decide) hg); have n1_ := Aside0.mk (blk_grown (g := gb777) (o := .cells #[.int .i64 a0_0, .int .i64 a0_1, .int .i64 a0_2, .int .i64 a0_3, .int .i64 a0_4, .int .i64 a0_5, .int .i64 a0_6, .int .i64 a0_7, .int .i64 a0_8, .slice A0_9 l0_9.length c0_9] 66 (0, 0)) (by (with_reducible repeat (first | refine blk_drewN ?_ _ | refine blk_drew ?_ | refine blk_alloc ?_ _)); refine blk_far ?_ NB777_787.out _; (with_reducible repeat (first | refine blk_drewN ?_ _ | refine blk_drew ?_ | refine blk_alloc ?_ _)); exact BK777.out) hg (Kd.R_ne HO_6.out BK777.out (by decide))); have n2_ := Aside0.mk (blk_grown (g := gb787) (o := .cells #[.int .i64 (rd t778 x24_1), .int .i64 (rd t778 (ji16)), .int .i64 t788, .int .i64 t790, .int .i64 t792] 81 (0, 0)) (by (with_reducible repeat (first | refine blk_drewN ?_ _ | refine blk_drew ?_ | refine blk_alloc ?_ _)); refine blk_put (cs := #[.int .i64 (rd t778 x24_1), .int .i64 (rd t778 (ji16)), .int .i64 t788, .int .i64 t790, .int .i64 t790]) ?_ 4 _ rfl; (with_reducible repeat (first | refine blk_drewN ?_ _ | refine blk_drew ?_ | refine blk_alloc ?_ _)); exact BK787.out) hg (Kd.R_away HO_6.out (fun _ hk => hk.2))); have n3_ := Aside0.mk (hb); have n4_ := Aside0.mk (ho); clear HO_4; clear BK777; clear BK787; clear HB; clear HO_6; have HO_4 := n0_; have BK777 := n1_; have BK787 := n2_; have HB := n3_; have HO796 := n4_; clear n0_ n1_ n2_ n3_ n4_; clear ho hb hg hat))
                go_roundg k1
                case measure => have := HK1.out; omega
                case rel => exact ⟨(y794), (ji16), (by first | rfl | (simp; done) | (simp only [← hji16] <;> (first | rfl | simp)) | (simp [*]; done)), H', ⟨by have := HK1.out; omega⟩, ⟨by (with_reducible repeat (first | apply Kd.R_alloc | apply Kd.R_drewN | apply Kd.R_drew)); exact HO_4.out⟩, ⟨by (with_reducible repeat (first | apply Kd.R_alloc | apply Kd.R_drewN | apply Kd.R_drew)); exact Kd.R_mono HO796.out (fun _ hk => trivial)⟩, ⟨by (with_reducible repeat (first | refine blk_drewN ?_ _ | refine blk_drew ?_ | refine blk_alloc ?_ _)); exact BK777.out⟩, ⟨by repeat (first | (with_reducible first | exact HB.out | apply below_alloc | apply pw_below_drewN | apply below_drew1 | refine below_set ?_ GE777.out | refine below_set ?_ GE787.out) | exact HB.out)⟩⟩
               ·
                rw [if_neg c26] at H
                exact absurd H (by simp)
              ·
               rw [if_neg c25] at H
               have c25b0 : (t793 == 0) = false := beq_eq_false_iff_ne.mpr c25
               have c25b1 : (t793 != 0) = true := bne_iff_ne.mpr c25
               simp only [Option.some.injEq, Prod.mk.injEq] at H
               obtain ⟨rfl, rfl⟩ := H
               try go_wp2
               have n0_ := Aside0.mk (Kd.R_drew HO_4.out)
               have n1_ := Aside0.mk (Kd.R_drew HO_6.out)
               have n2_ := Aside0.mk (blk_drew BK777.out)
               have n3_ := Aside0.mk (below_drew1 HB.out)
               clear HO_4 HO_6 BK777 HB;have HO_4 := n0_;have HO_6 := n1_;have BK777 := n2_;have HB := n3_;clear n0_ n1_ n2_ n3_
               have p785 : 0 ≤ (x24_1 : Int) := of_decide_eq_true (by first | (with_reducible assumption) | assumption)
               have q785 : x24_1 < (t778.length : Int) := of_decide_eq_true (by first | (with_reducible assumption) | assumption)
               obtain ⟨ad785, e785, hx785_0⟩ := Kd.at_int (Kd.R_reads' HO_4.out).2.2 x24_1 p785 q785
               cases e785
               replace p785 := eq_true p785;replace q785 := eq_true q785
               have p786 : 0 ≤ ((ji16) : Int) := of_decide_eq_true (by first | (with_reducible assumption) | assumption)
               have q786 : (ji16) < (t778.length : Int) := of_decide_eq_true (by first | (with_reducible assumption) | assumption)
               obtain ⟨ad786, e786, hx786_0⟩ := Kd.at_int (Kd.R_reads' HO_4.out).2.2 (ji16) p786 q786
               obtain rfl : ad785 = ad786 := (by injection e786)
               replace p786 := eq_true p786;replace q786 := eq_true q786
               refine start_ (n := 12) (S := fun w' => w'.cell? (ad785.add (x24_1).toNat) = some (.int .i64 (rd t778 x24_1)) ∧ w'.cell? (ad785.add ((ji16)).toNat) = some (.int .i64 (rd t778 (ji16)))) (ds := []) #[false, false, false, false, false, false, false, false, false, false, false, false] (by kernel_rfl) rfl rfl ⟨hx785_0, hx786_0⟩ (fun hHeld => ?_); refine with_tabW sched_Periods.tab8 sched_Periods.bits8 (fun HT_ HW_ => ?_)
               generalize wr.drew = w46 at HO_4 HO_6 BK777 HB hx785_0 hx786_0 hHeld ⊢
               refine pure_ (i := 0) (N := some 27) (v := ?_) (a' := ?_) #[true, false, false, false, false, false, false, false, false, false, false, false] rfl rfl (any_of HT_.out (by kernel_rfl)) (fun _ _ _ h => h) (Or.inl ⟨by rfl, ?_⟩) ?_ ?_
               rotate_left
               ·
                intro w'
                go_simp
                with_reducible rfl
               rotate_left
               ·
                simp only [Act.put, List.setIfInBounds_toArray, List.set_cons_zero, List.set_cons_succ, i64_w, i32_w]
                rfl
               refine pure_ (i := 1) (N := some 28) (v := ?_) (a' := ?_) #[true, true, false, false, false, false, false, false, false, false, false, false] rfl rfl (any_of HT_.out (by kernel_rfl)) (fun _ _ _ h => h) (Or.inl ⟨by rfl, ?_⟩) ?_ ?_
               rotate_left
               ·
                intro w'
                go_simp
                with_reducible rfl
               rotate_left
               ·
                simp only [Act.put, List.setIfInBounds_toArray, List.set_cons_zero, List.set_cons_succ, i64_w, i32_w]
                rfl
               refine pure_ (i := 2) (N := some 29) (v := ?_) (a' := ?_) #[true, true, true, false, false, false, false, false, false, false, false, false] rfl rfl (any_of HT_.out (by kernel_rfl)) (fun _ _ _ h => h) (Or.inl ⟨by rfl, ?_⟩) ?_ ?_
               rotate_left
               ·
                intro w'
                go_simp
                with_reducible rfl
               rotate_left
               ·
                simp only [Act.put, List.setIfInBounds_toArray, List.set_cons_zero, List.set_cons_succ, i64_w, i32_w]
                rfl
               refine pure_ (i := 4) (N := some 31) (v := ?_) (a' := ?_) #[true, true, true, false, true, false, false, false, false, false, false, false] rfl rfl (any_of HT_.out (by kernel_rfl)) (fun _ _ _ h => h) (Or.inl ⟨by rfl, ?_⟩) ?_ ?_
               rotate_left
               ·
                intro w'
                go_simp
                with_reducible rfl
               rotate_left
               ·
                simp only [Act.put, List.setIfInBounds_toArray, List.set_cons_zero, List.set_cons_succ, i64_w, i32_w]
                rfl
               refine pure_ (i := 5) (N := some 32) (v := ?_) (a' := ?_) #[true, true, true, false, true, true, false, false, false, false, false, false] rfl rfl (any_of HT_.out (by kernel_rfl)) (fun _ _ _ h => h) (Or.inl ⟨by rfl, ?_⟩) ?_ ?_
               rotate_left
               ·
                intro w'
                go_simp
                with_reducible rfl
               rotate_left
               ·
                simp only [Act.put, List.setIfInBounds_toArray, List.set_cons_zero, List.set_cons_succ, i64_w, i32_w]
                rfl
               refine pure_ (i := 6) (N := some 33) (v := ?_) (a' := ?_) #[true, true, true, false, true, true, true, false, false, false, false, false] rfl rfl (any_of HT_.out (by kernel_rfl)) (fun _ _ _ h => h) (Or.inl ⟨by rfl, ?_⟩) ?_ ?_
               rotate_left
               ·
                intro w'
                go_simp
                with_reducible rfl
               rotate_left
               ·
                simp only [Act.put, List.setIfInBounds_toArray, List.set_cons_zero, List.set_cons_succ, i64_w, i32_w]
                rfl
               refine pure_ (i := 7) (N := some 34) (v := ?_) (a' := ?_) #[true, true, true, false, true, true, true, true, false, false, false, false] rfl rfl (any_of HT_.out (by kernel_rfl)) (fun _ _ _ h => h) (Or.inl ⟨by rfl, ?_⟩) ?_ ?_
               rotate_left
               ·
                intro w'
                go_simp
                with_reducible rfl
               rotate_left
               ·
                simp only [Act.put, List.setIfInBounds_toArray, List.set_cons_zero, List.set_cons_succ, i64_w, i32_w]
                rfl
               refine take_ (i := 3) (N := some 30) (v := ?_) (a' := ?_) #[true, true, true, true, true, true, true, true, false, false, false, false] rfl rfl (take_ofW HT_.out HW_.out (by kernel_rfl)) (fun _ _ _ h => h) (Or.inl ⟨by rfl, ?_⟩) hHeld ?_ ?_
               rotate_left
               ·
                rintro w' ⟨s0, s1⟩
                go_simp
                with_reducible rfl
               rotate_left
               ·
                simp only [Act.put, List.setIfInBounds_toArray, List.set_cons_zero, List.set_cons_succ, i64_w, i32_w]
                rfl
               refine take_ (i := 8) (N := some 35) (v := ?_) (a' := ?_) #[true, true, true, true, true, true, true, true, true, false, false, false] rfl rfl (take_ofW HT_.out HW_.out (by kernel_rfl)) (fun _ _ _ h => h) (Or.inl ⟨by rfl, ?_⟩) hHeld ?_ ?_
               rotate_left
               ·
                rintro w' ⟨s0, s1⟩
                go_simp
                with_reducible rfl
               rotate_left
               ·
                simp only [Act.put, List.setIfInBounds_toArray, List.set_cons_zero, List.set_cons_succ, i64_w, i32_w]
                rfl
               refine pure_ (i := 9) (N := some 36) (v := ?_) (a' := ?_) #[true, true, true, true, true, true, true, true, true, true, false, false] rfl rfl (any_of HT_.out (by kernel_rfl)) (fun _ _ _ h => h) (Or.inl ⟨by rfl, ?_⟩) ?_ ?_
               rotate_left
               ·
                intro w'
                go_simp
                with_reducible rfl
               rotate_left
               ·
                simp only [Act.put, List.setIfInBounds_toArray, List.set_cons_zero, List.set_cons_succ, i64_w, i32_w]
                rfl
               refine one_ (i := 10) (N := some 8) #[true, true, true, true, true, true, true, true, true, true, true, false] rfl rfl (one_of HT_.out (by kernel_rfl)) (by decide) (fun K hK => ?_)
               refine box_step ?hg (N := 8) ?hd (cs := #[.int .i64 0, .int .i64 0, .int .i64 0, .int .i64 0, .int .i64 0]) (t := 81) ?hr ?_; (case hd => rfl); (case hg => rfl); (case hr => first | (go_simp; done) | (go_simp; rfl))
               intro gb787 hg w47 hbox hb
               have HS0_ := (hb.cell (World.block_lt_of_cell? _ _ (hHeld.1))).trans (hHeld.1)
               have HS1_ := (hb.cell (World.block_lt_of_cell? _ _ (hHeld.2))).trans (hHeld.2)
               have n0_ := Aside0.mk (Kd.R_below (by (with_reducible repeat (first | apply Kd.R_alloc | apply Kd.R_drewN | apply Kd.R_drew)); exact HO_4.out) hb)
               have n1_ := Aside0.mk (Kd.R_below (Kd.R_elderB (by (with_reducible repeat (first | apply Kd.R_alloc | apply Kd.R_drewN | apply Kd.R_drew)); exact HO_6.out) gb787 (Nat.le_of_eq hg.symm)) hb)
               have n2_ := Aside0.mk (blk_below (g := gb777) (o := .cells #[.int .i64 a0_0, .int .i64 a0_1, .int .i64 a0_2, .int .i64 a0_3, .int .i64 a0_4, .int .i64 a0_5, .int .i64 a0_6, .int .i64 a0_7, .int .i64 a0_8, .slice A0_9 l0_9.length c0_9] 66 (0, 0)) (by (with_reducible repeat (first | refine blk_drewN ?_ _ | refine blk_drew ?_ | refine blk_alloc ?_ _)); exact BK777.out) hb)
               have n3_ := Aside0.mk (below_step (by repeat (first | (with_reducible first | exact HB.out | apply below_alloc | apply pw_below_drewN | apply below_drew1 | refine below_set ?_ GE777.out) | exact HB.out)) hb)
               have n4_ := Aside0.mk (hbox)
               have n5_ := Aside0.mk ((by rw [hg]; exact (below_size (by repeat (first | (with_reducible first | exact HB.out | apply below_alloc | apply pw_below_drewN | apply below_drew1 | refine below_set ?_ GE777.out) | exact HB.out))) : w.heap.size ≤ gb787))
               have n6_ := Aside0.mk ((by rw [hg]; exact (below_size (by repeat (first | (with_reducible first | exact HB.out | apply below_alloc | apply pw_below_drewN | apply below_drew1 | refine below_set ?_ GE777.out) | exact HB.out))) : w.heap.size ≤ gb787))
               have n7_ := Aside0.mk ((by rw [hg]; exact Nat.ne_of_lt (blk_lt (g := gb777) (o := .cells #[.int .i64 a0_0, .int .i64 a0_1, .int .i64 a0_2, .int .i64 a0_3, .int .i64 a0_4, .int .i64 a0_5, .int .i64 a0_6, .int .i64 a0_7, .int .i64 a0_8, .slice A0_9 l0_9.length c0_9] 66 (0, 0)) (by (with_reducible repeat (first | refine blk_drewN ?_ _ | refine blk_drew ?_ | refine blk_alloc ?_ _)); exact BK777.out)) : gb777 ≠ gb787))
               have n8_ := Aside0.mk ((by rw [hg]; exact Nat.ne_of_gt (blk_lt (g := gb777) (o := .cells #[.int .i64 a0_0, .int .i64 a0_1, .int .i64 a0_2, .int .i64 a0_3, .int .i64 a0_4, .int .i64 a0_5, .int .i64 a0_6, .int .i64 a0_7, .int .i64 a0_8, .slice A0_9 l0_9.length c0_9] 66 (0, 0)) (by (with_reducible repeat (first | refine blk_drewN ?_ _ | refine blk_drew ?_ | refine blk_alloc ?_ _)); exact BK777.out)) : gb787 ≠ gb777))
               clear HO_4 HO_6 BK777 HB;have HO_4 := n0_;have HO_6 := n1_;have BK777 := n2_;have HB := n3_;have BK787 := n4_;have GW787 := n5_;have GE787 := n6_;have NB777_787 := n7_;have NB787_777 := n8_;clear n0_ n1_ n2_ n3_ n4_ n5_ n6_ n7_ n8_ hb hbox hg
               refine hK.out _ _ ⟨HS0_, HS1_⟩ (fun hHeld => ?_)
               clear hK K
               refine norm_ (a' := ?_) ?_ ?_
               rotate_left
               ·
                show Act.put _ (some 8) _ = _
                simp only [Act.put, List.setIfInBounds_toArray, List.set_cons_zero, List.set_cons_succ, i64_w, i32_w]
                rfl
               refine one_ (i := 11) (N := none) #[true, true, true, true, true, true, true, true, true, true, true, true] rfl rfl (one_of HT_.out (by kernel_rfl)) (by decide) (fun K hK => ?_)
               have hs48 : w47.cell? ⟨gb787, 0, none⟩ = some (.int .i64 0) := (blk_cell BK787.out 0).trans rfl
               have hfs48 := blk_frozen BK787.out 0;have hns48_0 := NB777_787.out;have hms48_0 := NB787_777.out
               have hs49 : w47.cell? ⟨gb787, 1, none⟩ = some (.int .i64 0) := (blk_cell BK787.out 1).trans rfl
               have hfs49 := blk_frozen BK787.out 1;have hns49_0 := NB777_787.out;have hms49_0 := NB787_777.out
               have hs50 : w47.cell? ⟨gb787, 2, none⟩ = some (.int .i64 0) := (blk_cell BK787.out 2).trans rfl
               have hfs50 := blk_frozen BK787.out 2;have hns50_0 := NB777_787.out;have hms50_0 := NB787_777.out
               have hs51 : w47.cell? ⟨gb787, 3, none⟩ = some (.int .i64 0) := (blk_cell BK787.out 3).trans rfl
               have hfs51 := blk_frozen BK787.out 3;have hns51_0 := NB777_787.out;have hms51_0 := NB787_777.out
               have hs52 : w47.cell? ⟨gb787, 4, none⟩ = some (.int .i64 0) := (blk_cell BK787.out 4).trans rfl
               have hfs52 := blk_frozen BK787.out 4;have hns52_0 := NB777_787.out;have hms52_0 := NB787_777.out
               refine skip_ (w1 := ?_) (by rfl) rfl ?_ ?_
               rotate_left
               ·
                go_simp
                rfl
               refine hK.out _ _ ⟨((cell_far (p := ⟨gb787, _, none⟩) (by first | exact Kd.own_blk (Kd.R_ne HO_4.out BK787.out (by decide)) | (rw [add_block]; exact Kd.own_blk (Kd.R_ne HO_4.out BK787.out (by decide))) | (show (Addr.add _ _).block ≠ _; rw [add_block]; exact Kd.own_blk (Kd.R_ne HO_4.out BK787.out (by decide))) | (dsimp only; exact Kd.own_blk (Kd.R_ne HO_4.out BK787.out (by decide)))) _).trans (((cell_far (p := ⟨gb787, _, none⟩) (by first | exact Kd.own_blk (Kd.R_ne HO_4.out BK787.out (by decide)) | (rw [add_block]; exact Kd.own_blk (Kd.R_ne HO_4.out BK787.out (by decide))) | (show (Addr.add _ _).block ≠ _; rw [add_block]; exact Kd.own_blk (Kd.R_ne HO_4.out BK787.out (by decide))) | (dsimp only; exact Kd.own_blk (Kd.R_ne HO_4.out BK787.out (by decide)))) _).trans (((cell_far (p := ⟨gb787, _, none⟩) (by first | exact Kd.own_blk (Kd.R_ne HO_4.out BK787.out (by decide)) | (rw [add_block]; exact Kd.own_blk (Kd.R_ne HO_4.out BK787.out (by decide))) | (show (Addr.add _ _).block ≠ _; rw [add_block]; exact Kd.own_blk (Kd.R_ne HO_4.out BK787.out (by decide))) | (dsimp only; exact Kd.own_blk (Kd.R_ne HO_4.out BK787.out (by decide)))) _).trans (((cell_far (p := ⟨gb787, _, none⟩) (by first | exact Kd.own_blk (Kd.R_ne HO_4.out BK787.out (by decide)) | (rw [add_block]; exact Kd.own_blk (Kd.R_ne HO_4.out BK787.out (by decide))) | (show (Addr.add _ _).block ≠ _; rw [add_block]; exact Kd.own_blk (Kd.R_ne HO_4.out BK787.out (by decide))) | (dsimp only; exact Kd.own_blk (Kd.R_ne HO_4.out BK787.out (by decide)))) _).trans (((cell_far (p := ⟨gb787, _, none⟩) (by first | exact Kd.own_blk (Kd.R_ne HO_4.out BK787.out (by decide)) | (rw [add_block]; exact Kd.own_blk (Kd.R_ne HO_4.out BK787.out (by decide))) | (show (Addr.add _ _).block ≠ _; rw [add_block]; exact Kd.own_blk (Kd.R_ne HO_4.out BK787.out (by decide))) | (dsimp only; exact Kd.own_blk (Kd.R_ne HO_4.out BK787.out (by decide)))) _).trans (hHeld.1)))))))))), ((cell_far (p := ⟨gb787, _, none⟩) (by first | exact Kd.own_blk (Kd.R_ne HO_4.out BK787.out (by decide)) | (rw [add_block]; exact Kd.own_blk (Kd.R_ne HO_4.out BK787.out (by decide))) | (show (Addr.add _ _).block ≠ _; rw [add_block]; exact Kd.own_blk (Kd.R_ne HO_4.out BK787.out (by decide))) | (dsimp only; exact Kd.own_blk (Kd.R_ne HO_4.out BK787.out (by decide)))) _).trans (((cell_far (p := ⟨gb787, _, none⟩) (by first | exact Kd.own_blk (Kd.R_ne HO_4.out BK787.out (by decide)) | (rw [add_block]; exact Kd.own_blk (Kd.R_ne HO_4.out BK787.out (by decide))) | (show (Addr.add _ _).block ≠ _; rw [add_block]; exact Kd.own_blk (Kd.R_ne HO_4.out BK787.out (by decide))) | (dsimp only; exact Kd.own_blk (Kd.R_ne HO_4.out BK787.out (by decide)))) _).trans (((cell_far (p := ⟨gb787, _, none⟩) (by first | exact Kd.own_blk (Kd.R_ne HO_4.out BK787.out (by decide)) | (rw [add_block]; exact Kd.own_blk (Kd.R_ne HO_4.out BK787.out (by decide))) | (show (Addr.add _ _).block ≠ _; rw [add_block]; exact Kd.own_blk (Kd.R_ne HO_4.out BK787.out (by decide))) | (dsimp only; exact Kd.own_blk (Kd.R_ne HO_4.out BK787.out (by decide)))) _).trans (((cell_far (p := ⟨gb787, _, none⟩) (by first | exact Kd.own_blk (Kd.R_ne HO_4.out BK787.out (by decide)) | (rw [add_block]; exact Kd.own_blk (Kd.R_ne HO_4.out BK787.out (by decide))) | (show (Addr.add _ _).block ≠ _; rw [add_block]; exact Kd.own_blk (Kd.R_ne HO_4.out BK787.out (by decide))) | (dsimp only; exact Kd.own_blk (Kd.R_ne HO_4.out BK787.out (by decide)))) _).trans (((cell_far (p := ⟨gb787, _, none⟩) (by first | exact Kd.own_blk (Kd.R_ne HO_4.out BK787.out (by decide)) | (rw [add_block]; exact Kd.own_blk (Kd.R_ne HO_4.out BK787.out (by decide))) | (show (Addr.add _ _).block ≠ _; rw [add_block]; exact Kd.own_blk (Kd.R_ne HO_4.out BK787.out (by decide))) | (dsimp only; exact Kd.own_blk (Kd.R_ne HO_4.out BK787.out (by decide)))) _).trans (hHeld.2))))))))))⟩ (fun hHeld => ?_)
               clear hK K
               refine done_ (done_of HT_.out (by kernel_rfl)) ?_
               have hnb53 := NB777_787.out;have hnc53 := NB787_777.out
               have hcz54_0 : w47.cell? ⟨gb777, 0, none⟩ = some (.int .i64 a0_0) := (blk_cell BK777.out 0).trans rfl
               have hcz54_1 : w47.cell? ⟨gb777, 1, none⟩ = some (.int .i64 a0_1) := (blk_cell BK777.out 1).trans rfl
               have hcz54_2 : w47.cell? ⟨gb777, 2, none⟩ = some (.int .i64 a0_2) := (blk_cell BK777.out 2).trans rfl
               have hcz54_3 : w47.cell? ⟨gb777, 3, none⟩ = some (.int .i64 a0_3) := (blk_cell BK777.out 3).trans rfl
               have hcz54_4 : w47.cell? ⟨gb777, 4, none⟩ = some (.int .i64 a0_4) := (blk_cell BK777.out 4).trans rfl
               have hcz54_5 : w47.cell? ⟨gb777, 5, none⟩ = some (.int .i64 a0_5) := (blk_cell BK777.out 5).trans rfl
               have hcz54_6 : w47.cell? ⟨gb777, 6, none⟩ = some (.int .i64 a0_6) := (blk_cell BK777.out 6).trans rfl
               have hcz54_7 : w47.cell? ⟨gb777, 7, none⟩ = some (.int .i64 a0_7) := (blk_cell BK777.out 7).trans rfl
               have hcz54_8 : w47.cell? ⟨gb777, 8, none⟩ = some (.int .i64 a0_8) := (blk_cell BK777.out 8).trans rfl
               have hcz54_9 : w47.cell? ⟨gb777, 9, none⟩ = some (.slice A0_9 l0_9.length c0_9) := (blk_cell BK777.out 9).trans rfl
               have hfz54_0 := blk_frozen BK777.out 0;have hfz54_1 := blk_frozen BK777.out 1;have hfz54_2 := blk_frozen BK777.out 2;have hfz54_3 := blk_frozen BK777.out 3;have hfz54_4 := blk_frozen BK777.out 4;have hfz54_5 := blk_frozen BK777.out 5;have hfz54_6 := blk_frozen BK777.out 6;have hfz54_7 := blk_frozen BK777.out 7;have hfz54_8 := blk_frozen BK777.out 8;have hfz54_9 := blk_frozen BK777.out 9
               have hcz55_0 : w47.cell? ⟨gb787, 0, none⟩ = some (.int .i64 0) := (blk_cell BK787.out 0).trans rfl
               have hcz55_1 : w47.cell? ⟨gb787, 1, none⟩ = some (.int .i64 0) := (blk_cell BK787.out 1).trans rfl
               have hcz55_2 : w47.cell? ⟨gb787, 2, none⟩ = some (.int .i64 0) := (blk_cell BK787.out 2).trans rfl
               have hcz55_3 : w47.cell? ⟨gb787, 3, none⟩ = some (.int .i64 0) := (blk_cell BK787.out 3).trans rfl
               have hcz55_4 : w47.cell? ⟨gb787, 4, none⟩ = some (.int .i64 0) := (blk_cell BK787.out 4).trans rfl
               have hfz55_0 := blk_frozen BK787.out 0;have hfz55_1 := blk_frozen BK787.out 1;have hfz55_2 := blk_frozen BK787.out 2;have hfz55_3 := blk_frozen BK787.out 3;have hfz55_4 := blk_frozen BK787.out 4
               try go_wp2_with (first | ((with_reducible refine gate_callee (f := 38) rfl ?_); refine goesL_ (some 44) rfl rfl Try.func38 (by kernel_rfl) rfl #[.agg #[.int .i64 a0_8, .slice A0_9 l0_9.length c0_9], .int .i64 (rd t778 x24_1), .int .i64 a0_6] rfl (by (try simp only [List.map_toArray, List.map_cons, List.map_nil]); first | done | rfl | (simp only [List.length_drop, List.length_take]; rfl)) ?_; (with_reducible refine (cal_Adjust.calls a0_8 _ _ l0_9 (rd t778 x24_1) a0_6 t788 t789 _ ?side1 ?side2 A19.out).mono ?_); (case side1 => exact Kd.C_below HR0_9.out (by repeat (first | (with_reducible first | exact HB.out | apply below_alloc | apply pw_below_drewN | apply below_drew1 | refine below_set ?_ GE777.out | refine below_set ?_ GE787.out) | exact HB.out))); (case side2 => exact HC0_9.out); rintro e w56 ⟨rfl, hb⟩; refine ⟨_, rfl, ?_⟩; have n0_ := Aside0.mk (Kd.R_below (by (with_reducible repeat (first | apply Kd.R_alloc | apply Kd.R_drewN | apply Kd.R_drew)); exact (Kd.R_mono (Kd.R_far (p := ⟨gb787, 4, none⟩) (Kd.R_far (p := ⟨gb787, 3, none⟩) (Kd.R_far (p := ⟨gb787, 2, none⟩) (Kd.R_far (p := ⟨gb787, 1, none⟩) (Kd.R_far (p := ⟨gb787, 0, none⟩) (Kd.R_types HO_4.out BK787.out (by decide)) (fun _ hk => hk.2) (.int .i64 (rd t778 x24_1))) (fun _ hk => hk.2) (.int .i64 (rd t778 (ji16)))) (fun _ hk => hk.2) (.int .i64 0)) (fun _ hk => hk.2) (.int .i64 0)) (fun _ hk => hk.2) (.int .i64 0)) (fun _ h_ => h_.1))) hb); have n1_ := Aside0.mk (Kd.R_below (by (with_reducible repeat (first | apply Kd.R_alloc | apply Kd.R_drewN | apply Kd.R_drew)); exact (Kd.R_mono (Kd.R_far (p := ⟨gb787, 4, none⟩) (Kd.R_far (p := ⟨gb787, 3, none⟩) (Kd.R_far (p := ⟨gb787, 2, none⟩) (Kd.R_far (p := ⟨gb787, 1, none⟩) (Kd.R_far (p := ⟨gb787, 0, none⟩) (Kd.R_mono HO_6.out (fun k_ hk => (⟨hk, hk.2⟩ : _ ∧ k_ ≠ gb787))) (fun _ hk => hk.2) (.int .i64 (rd t778 x24_1))) (fun _ hk => hk.2) (.int .i64 (rd t778 (ji16)))) (fun _ hk => hk.2) (.int .i64 0)) (fun _ hk => hk.2) (.int .i64 0)) (fun _ hk => hk.2) (.int .i64 0)) (fun _ h_ => h_.1))) hb); have n2_ := Aside0.mk (blk_below (g := gb777) (o := .cells #[.int .i64 a0_0, .int .i64 a0_1, .int .i64 a0_2, .int .i64 a0_3, .int .i64 a0_4, .int .i64 a0_5, .int .i64 a0_6, .int .i64 a0_7, .int .i64 a0_8, .slice A0_9 l0_9.length c0_9] 66 (0, 0)) (by (with_reducible repeat (first | refine blk_drewN ?_ _ | refine blk_drew ?_ | refine blk_alloc ?_ _)); refine blk_far ?_ NB777_787.out _; (with_reducible repeat (first | refine blk_drewN ?_ _ | refine blk_drew ?_ | refine blk_alloc ?_ _)); refine blk_far ?_ NB777_787.out _; (with_reducible repeat (first | refine blk_drewN ?_ _ | refine blk_drew ?_ | refine blk_alloc ?_ _)); refine blk_far ?_ NB777_787.out _; (with_reducible repeat (first | refine blk_drewN ?_ _ | refine blk_drew ?_ | refine blk_alloc ?_ _)); refine blk_far ?_ NB777_787.out _; (with_reducible repeat (first | refine blk_drewN ?_ _ | refine blk_drew ?_ | refine blk_alloc ?_ _)); refine blk_far ?_ NB777_787.out _; (with_reducible repeat (first | refine blk_drewN ?_ _ | refine blk_drew ?_ | refine blk_alloc ?_ _)); exact BK777.out) hb); have n3_ := Aside0.mk (blk_below (g := gb787) (o := .cells #[.int .i64 (rd t778 x24_1), .int .i64 (rd t778 (ji16)), .int .i64 0, .int .i64 0, .int .i64 0] 81 (0, 0)) (by (with_reducible repeat (first | refine blk_drewN ?_ _ | refine blk_drew ?_ | refine blk_alloc ?_ _)); refine blk_put (cs := #[.int .i64 (rd t778 x24_1), .int .i64 (rd t778 (ji16)), .int .i64 0, .int .i64 0, .int .i64 0]) ?_ 4 _ rfl; (with_reducible repeat (first | refine blk_drewN ?_ _ | refine blk_drew ?_ | refine blk_alloc ?_ _)); refine blk_put (cs := #[.int .i64 (rd t778 x24_1), .int .i64 (rd t778 (ji16)), .int .i64 0, .int .i64 0, .int .i64 0]) ?_ 3 _ rfl; (with_reducible repeat (first | refine blk_drewN ?_ _ | refine blk_drew ?_ | refine blk_alloc ?_ _)); refine blk_put (cs := #[.int .i64 (rd t778 x24_1), .int .i64 (rd t778 (ji16)), .int .i64 0, .int .i64 0, .int .i64 0]) ?_ 2 _ rfl; (with_reducible repeat (first | refine blk_drewN ?_ _ | refine blk_drew ?_ | refine blk_alloc ?_ _)); refine blk_put (cs := #[.int .i64 (rd t778 x24_1), .int .i64 0, .int .i64 0, .int .i64 0, .int .i64 0]) ?_ 1 _ rfl; (with_reducible repeat (first | refine blk_drewN ?_ _ | refine blk_drew ?_ | refine blk_alloc ?_ _)); refine blk_put (cs := #[.int .i64 0, .int .i64 0, .int .i64 0, .int .i64 0, .int .i64 0]) ?_ 0 _ rfl; (with_reducible repeat (first | refine blk_drewN ?_ _ | refine blk_drew ?_ | refine blk_alloc ?_ _)); exact BK787.out) hb); have n4_ := Aside0.mk (below_step (by repeat (first | (with_reducible first | exact HB.out | apply below_alloc | apply pw_below_drewN | apply below_drew1 | refine below_set ?_ GE777.out | refine below_set ?_ GE787.out) | exact HB.out)) hb); clear HO_4; clear HO_6; clear BK777; clear BK787; clear HB; have HO_4 := n0_; have HO_6 := n1_; have BK777 := n2_; have BK787 := n3_; have HB := n4_; clear n0_ n1_ n2_ n3_ n4_; (try clear hb); (try clear hb2); (try clear hk); (try clear hi); have hcz57_0 : w56.cell? ⟨gb787, 0, none⟩ = some (.int .i64 (rd t778 x24_1)) := (blk_cell BK787.out 0).trans rfl; have hcz57_1 : w56.cell? ⟨gb787, 1, none⟩ = some (.int .i64 (rd t778 (ji16))) := (blk_cell BK787.out 1).trans rfl; have hcz57_2 : w56.cell? ⟨gb787, 2, none⟩ = some (.int .i64 0) := (blk_cell BK787.out 2).trans rfl; have hcz57_3 : w56.cell? ⟨gb787, 3, none⟩ = some (.int .i64 0) := (blk_cell BK787.out 3).trans rfl; have hcz57_4 : w56.cell? ⟨gb787, 4, none⟩ = some (.int .i64 0) := (blk_cell BK787.out 4).trans rfl; have hfz57_0 := blk_frozen BK787.out 0; have hfz57_1 := blk_frozen BK787.out 1; have hfz57_2 := blk_frozen BK787.out 2; have hfz57_3 := blk_frozen BK787.out 3; have hfz57_4 := blk_frozen BK787.out 4; have hcz58_0 : w56.cell? ⟨gb777, 0, none⟩ = some (.int .i64 a0_0) := (blk_cell BK777.out 0).trans rfl; have hcz58_1 : w56.cell? ⟨gb777, 1, none⟩ = some (.int .i64 a0_1) := (blk_cell BK777.out 1).trans rfl; have hcz58_2 : w56.cell? ⟨gb777, 2, none⟩ = some (.int .i64 a0_2) := (blk_cell BK777.out 2).trans rfl; have hcz58_3 : w56.cell? ⟨gb777, 3, none⟩ = some (.int .i64 a0_3) := (blk_cell BK777.out 3).trans rfl; have hcz58_4 : w56.cell? ⟨gb777, 4, none⟩ = some (.int .i64 a0_4) := (blk_cell BK777.out 4).trans rfl; have hcz58_5 : w56.cell? ⟨gb777, 5, none⟩ = some (.int .i64 a0_5) := (blk_cell BK777.out 5).trans rfl; have hcz58_6 : w56.cell? ⟨gb777, 6, none⟩ = some (.int .i64 a0_6) := (blk_cell BK777.out 6).trans rfl; have hcz58_7 : w56.cell? ⟨gb777, 7, none⟩ = some (.int .i64 a0_7) := (blk_cell BK777.out 7).trans rfl; have hcz58_8 : w56.cell? ⟨gb777, 8, none⟩ = some (.int .i64 a0_8) := (blk_cell BK777.out 8).trans rfl; have hcz58_9 : w56.cell? ⟨gb777, 9, none⟩ = some (.slice A0_9 l0_9.length c0_9) := (blk_cell BK777.out 9).trans rfl; have hfz58_0 := blk_frozen BK777.out 0; have hfz58_1 := blk_frozen BK777.out 1; have hfz58_2 := blk_frozen BK777.out 2; have hfz58_3 := blk_frozen BK777.out 3; have hfz58_4 := blk_frozen BK777.out 4; have hfz58_5 := blk_frozen BK777.out 5; have hfz58_6 := blk_frozen BK777.out 6; have hfz58_7 := blk_frozen BK777.out 7; have hfz58_8 := blk_frozen BK777.out 8; have hfz58_9 := blk_frozen BK777.out 9) | ((with_reducible refine gate_callee (f := 38) rfl ?_); refine goesL_ (some 58) rfl rfl Try.func38 (by kernel_rfl) rfl #[.agg #[.int .i64 a0_8, .slice A0_9 l0_9.length c0_9], .int .i64 (rd t778 (ji16)), .int .i64 a0_6] rfl (by (try simp only [List.map_toArray, List.map_cons, List.map_nil]); first | done | (simp only [hji16]; rfl) | rfl | (simp only [List.length_drop, List.length_take]; rfl)) ?_; (with_reducible refine (cal_Adjust.calls a0_8 _ _ l0_9 (rd t778 (ji16)) a0_6 t790 t791 _ ?side1 ?side2 A21.out).mono ?_); (case side1 => exact Kd.C_below HR0_9.out (by repeat (first | (with_reducible first | exact HB.out | apply below_alloc | apply pw_below_drewN | apply below_drew1 | refine below_set ?_ GE777.out | refine below_set ?_ GE787.out) | exact HB.out))); (case side2 => exact HC0_9.out); rintro e w59 ⟨rfl, hb⟩; refine ⟨_, rfl, ?_⟩; have n0_ := Aside0.mk (Kd.R_below (by (with_reducible repeat (first | apply Kd.R_alloc | apply Kd.R_drewN | apply Kd.R_drew)); exact (Kd.R_mono (Kd.R_far (p := ⟨gb787, 2, none⟩) (Kd.R_types HO_4.out BK787.out (by decide)) (fun _ hk => hk.2) (.int .i64 t788)) (fun _ h_ => h_.1))) hb); have n1_ := Aside0.mk (Kd.R_below (by (with_reducible repeat (first | apply Kd.R_alloc | apply Kd.R_drewN | apply Kd.R_drew)); exact (Kd.R_mono (Kd.R_far (p := ⟨gb787, 2, none⟩) (Kd.R_mono HO_6.out (fun k_ hk => (⟨hk, hk.2⟩ : _ ∧ k_ ≠ gb787))) (fun _ hk => hk.2) (.int .i64 t788)) (fun _ h_ => h_.1))) hb); have n2_ := Aside0.mk (blk_below (g := gb777) (o := .cells #[.int .i64 a0_0, .int .i64 a0_1, .int .i64 a0_2, .int .i64 a0_3, .int .i64 a0_4, .int .i64 a0_5, .int .i64 a0_6, .int .i64 a0_7, .int .i64 a0_8, .slice A0_9 l0_9.length c0_9] 66 (0, 0)) (by (with_reducible repeat (first | refine blk_drewN ?_ _ | refine blk_drew ?_ | refine blk_alloc ?_ _)); refine blk_far ?_ NB777_787.out _; (with_reducible repeat (first | refine blk_drewN ?_ _ | refine blk_drew ?_ | refine blk_alloc ?_ _)); exact BK777.out) hb); have n3_ := Aside0.mk (blk_below (g := gb787) (o := .cells #[.int .i64 (rd t778 x24_1), .int .i64 (rd t778 (ji16)), .int .i64 t788, .int .i64 0, .int .i64 0] 81 (0, 0)) (by (with_reducible repeat (first | refine blk_drewN ?_ _ | refine blk_drew ?_ | refine blk_alloc ?_ _)); refine blk_put (cs := #[.int .i64 (rd t778 x24_1), .int .i64 (rd t778 (ji16)), .int .i64 0, .int .i64 0, .int .i64 0]) ?_ 2 _ rfl; (with_reducible repeat (first | refine blk_drewN ?_ _ | refine blk_drew ?_ | refine blk_alloc ?_ _)); exact BK787.out) hb); have n4_ := Aside0.mk (below_step (by repeat (first | (with_reducible first | exact HB.out | apply below_alloc | apply pw_below_drewN | apply below_drew1 | refine below_set ?_ GE777.out | refine below_set ?_ GE787.out) | exact HB.out)) hb); clear HO_4; clear HO_6; clear BK777; clear BK787; clear HB; have HO_4 := n0_; have HO_6 := n1_; have BK777 := n2_; have BK787 := n3_; have HB := n4_; clear n0_ n1_ n2_ n3_ n4_; (try clear hb); (try clear hb2); (try clear hk); (try clear hi); have hcz60_0 : w59.cell? ⟨gb787, 0, none⟩ = some (.int .i64 (rd t778 x24_1)) := (blk_cell BK787.out 0).trans rfl; have hcz60_1 : w59.cell? ⟨gb787, 1, none⟩ = some (.int .i64 (rd t778 (ji16))) := (blk_cell BK787.out 1).trans rfl; have hcz60_2 : w59.cell? ⟨gb787, 2, none⟩ = some (.int .i64 t788) := (blk_cell BK787.out 2).trans rfl; have hcz60_3 : w59.cell? ⟨gb787, 3, none⟩ = some (.int .i64 0) := (blk_cell BK787.out 3).trans rfl; have hcz60_4 : w59.cell? ⟨gb787, 4, none⟩ = some (.int .i64 0) := (blk_cell BK787.out 4).trans rfl; have hfz60_0 := blk_frozen BK787.out 0; have hfz60_1 := blk_frozen BK787.out 1; have hfz60_2 := blk_frozen BK787.out 2; have hfz60_3 := blk_frozen BK787.out 3; have hfz60_4 := blk_frozen BK787.out 4; have hcz61_0 : w59.cell? ⟨gb777, 0, none⟩ = some (.int .i64 a0_0) := (blk_cell BK777.out 0).trans rfl; have hcz61_1 : w59.cell? ⟨gb777, 1, none⟩ = some (.int .i64 a0_1) := (blk_cell BK777.out 1).trans rfl; have hcz61_2 : w59.cell? ⟨gb777, 2, none⟩ = some (.int .i64 a0_2) := (blk_cell BK777.out 2).trans rfl; have hcz61_3 : w59.cell? ⟨gb777, 3, none⟩ = some (.int .i64 a0_3) := (blk_cell BK777.out 3).trans rfl; have hcz61_4 : w59.cell? ⟨gb777, 4, none⟩ = some (.int .i64 a0_4) := (blk_cell BK777.out 4).trans rfl; have hcz61_5 : w59.cell? ⟨gb777, 5, none⟩ = some (.int .i64 a0_5) := (blk_cell BK777.out 5).trans rfl; have hcz61_6 : w59.cell? ⟨gb777, 6, none⟩ = some (.int .i64 a0_6) := (blk_cell BK777.out 6).trans rfl; have hcz61_7 : w59.cell? ⟨gb777, 7, none⟩ = some (.int .i64 a0_7) := (blk_cell BK777.out 7).trans rfl; have hcz61_8 : w59.cell? ⟨gb777, 8, none⟩ = some (.int .i64 a0_8) := (blk_cell BK777.out 8).trans rfl; have hcz61_9 : w59.cell? ⟨gb777, 9, none⟩ = some (.slice A0_9 l0_9.length c0_9) := (blk_cell BK777.out 9).trans rfl; have hfz61_0 := blk_frozen BK777.out 0; have hfz61_1 := blk_frozen BK777.out 1; have hfz61_2 := blk_frozen BK777.out 2; have hfz61_3 := blk_frozen BK777.out 3; have hfz61_4 := blk_frozen BK777.out 4; have hfz61_5 := blk_frozen BK777.out 5; have hfz61_6 := blk_frozen BK777.out 6; have hfz61_7 := blk_frozen BK777.out 7; have hfz61_8 := blk_frozen BK777.out 8; have hfz61_9 := blk_frozen BK777.out 9) | ((with_reducible refine gate_callee (f := 40) rfl ?_); refine goesL_ (some 78) rfl rfl Try.func40 (by kernel_rfl) rfl #[.agg #[.int .i64 a0_8, .slice A0_9 l0_9.length c0_9], .int .i64 t790, .int .i64 a0_7] rfl (by (try simp only [List.map_toArray, List.map_cons, List.map_nil]); first | done | rfl | (simp only [List.length_drop, List.length_take]; rfl)) ?_; (with_reducible refine (cal_Add.calls a0_8 _ _ l0_9 t790 a0_7 t792 t793 _ ?side1 ?side2 A24.out).mono ?_); (case side1 => exact Kd.C_below HR0_9.out (by repeat (first | (with_reducible first | exact HB.out | apply below_alloc | apply pw_below_drewN | apply below_drew1 | refine below_set ?_ GE777.out | refine below_set ?_ GE787.out) | exact HB.out))); (case side2 => exact HC0_9.out); rintro e w62 ⟨rfl, hb⟩; refine ⟨_, rfl, ?_⟩; have n0_ := Aside0.mk (Kd.R_below (by (with_reducible repeat (first | apply Kd.R_alloc | apply Kd.R_drewN | apply Kd.R_drew)); exact (Kd.R_mono (Kd.R_far (p := ⟨gb787, 4, none⟩) (Kd.R_far (p := ⟨gb787, 3, none⟩) (Kd.R_types HO_4.out BK787.out (by decide)) (fun _ hk => hk.2) (.int .i64 t790)) (fun _ hk => hk.2) (.int .i64 t790)) (fun _ h_ => h_.1))) hb); have n1_ := Aside0.mk (Kd.R_below (by (with_reducible repeat (first | apply Kd.R_alloc | apply Kd.R_drewN | apply Kd.R_drew)); exact (Kd.R_mono (Kd.R_far (p := ⟨gb787, 4, none⟩) (Kd.R_far (p := ⟨gb787, 3, none⟩) (Kd.R_mono HO_6.out (fun k_ hk => (⟨hk, hk.2⟩ : _ ∧ k_ ≠ gb787))) (fun _ hk => hk.2) (.int .i64 t790)) (fun _ hk => hk.2) (.int .i64 t790)) (fun _ h_ => h_.1))) hb); have n2_ := Aside0.mk (blk_below (g := gb777) (o := .cells #[.int .i64 a0_0, .int .i64 a0_1, .int .i64 a0_2, .int .i64 a0_3, .int .i64 a0_4, .int .i64 a0_5, .int .i64 a0_6, .int .i64 a0_7, .int .i64 a0_8, .slice A0_9 l0_9.length c0_9] 66 (0, 0)) (by (with_reducible repeat (first | refine blk_drewN ?_ _ | refine blk_drew ?_ | refine blk_alloc ?_ _)); refine blk_far ?_ NB777_787.out _; (with_reducible repeat (first | refine blk_drewN ?_ _ | refine blk_drew ?_ | refine blk_alloc ?_ _)); refine blk_far ?_ NB777_787.out _; (with_reducible repeat (first | refine blk_drewN ?_ _ | refine blk_drew ?_ | refine blk_alloc ?_ _)); exact BK777.out) hb); have n3_ := Aside0.mk (blk_below (g := gb787) (o := .cells #[.int .i64 (rd t778 x24_1), .int .i64 (rd t778 (ji16)), .int .i64 t788, .int .i64 t790, .int .i64 t790] 81 (0, 0)) (by (with_reducible repeat (first | refine blk_drewN ?_ _ | refine blk_drew ?_ | refine blk_alloc ?_ _)); refine blk_put (cs := #[.int .i64 (rd t778 x24_1), .int .i64 (rd t778 (ji16)), .int .i64 t788, .int .i64 t790, .int .i64 0]) ?_ 4 _ rfl; (with_reducible repeat (first | refine blk_drewN ?_ _ | refine blk_drew ?_ | refine blk_alloc ?_ _)); refine blk_put (cs := #[.int .i64 (rd t778 x24_1), .int .i64 (rd t778 (ji16)), .int .i64 t788, .int .i64 0, .int .i64 0]) ?_ 3 _ rfl; (with_reducible repeat (first | refine blk_drewN ?_ _ | refine blk_drew ?_ | refine blk_alloc ?_ _)); exact BK787.out) hb); have n4_ := Aside0.mk (below_step (by repeat (first | (with_reducible first | exact HB.out | apply below_alloc | apply pw_below_drewN | apply below_drew1 | refine below_set ?_ GE777.out | refine below_set ?_ GE787.out) | exact HB.out)) hb); clear HO_4; clear HO_6; clear BK777; clear BK787; clear HB; have HO_4 := n0_; have HO_6 := n1_; have BK777 := n2_; have BK787 := n3_; have HB := n4_; clear n0_ n1_ n2_ n3_ n4_; (try clear hb); (try clear hb2); (try clear hk); (try clear hi); have hcz63_0 : w62.cell? ⟨gb787, 0, none⟩ = some (.int .i64 (rd t778 x24_1)) := (blk_cell BK787.out 0).trans rfl; have hcz63_1 : w62.cell? ⟨gb787, 1, none⟩ = some (.int .i64 (rd t778 (ji16))) := (blk_cell BK787.out 1).trans rfl; have hcz63_2 : w62.cell? ⟨gb787, 2, none⟩ = some (.int .i64 t788) := (blk_cell BK787.out 2).trans rfl; have hcz63_3 : w62.cell? ⟨gb787, 3, none⟩ = some (.int .i64 t790) := (blk_cell BK787.out 3).trans rfl; have hcz63_4 : w62.cell? ⟨gb787, 4, none⟩ = some (.int .i64 t790) := (blk_cell BK787.out 4).trans rfl; have hfz63_0 := blk_frozen BK787.out 0; have hfz63_1 := blk_frozen BK787.out 1; have hfz63_2 := blk_frozen BK787.out 2; have hfz63_3 := blk_frozen BK787.out 3; have hfz63_4 := blk_frozen BK787.out 4))
               go_ret2
               exact ⟨_, by first | rfl | (simp [errW_none, errW_some] <;> rfl) | (simp only [← hji4, ← hji16]; first | rfl | (simp [errW_none, errW_some] <;> rfl)) | (simp [*, errW_none, errW_some] <;> rfl), by first | exact Kd.R_nil _ _ _ _ _ | exact Kd.N_nil _ _ _ _ _ | exact Kd.V_nil _ _ _ _ _ | exact Kd.Q_nil _ _ _ _ _ | exact Kd.S_nil _ _ _ _ _, by repeat (first | (with_reducible first | exact HB.out | apply below_alloc | apply pw_below_drewN | apply below_drew1 | refine below_set ?_ GE777.out | refine below_set ?_ GE787.out) | exact HB.out)⟩
             ·
              rw [if_neg c23] at H
              have c23b0 : decide (0 < a0_7) = false := decide_eq_false c23
              clear c23
              by_cases c64 : x6_1.length < 3518437208883
              ·
               rw [if_pos c64] at H
               have LMc64 := Aside0.mk c64;clear c64
               obtain ⟨y797, hy797⟩ : ∃ y_ : List (S81), y_ = (x6_1 ++ [(⟨rd t778 x24_1, rd t778 (ji16), t788, t790, t790⟩ : S81)]) := ⟨_, rfl⟩
               replace H : (sched_Periods.l0 k1 t778 y797 ji4 ji16 a0_0 a0_1 a0_2 a0_3 a0_4 a0_5 a0_6 a0_7 a0_8 l0_9) = some (r1, r2) := by first | (rw [hy797]; with_reducible exact H) | (have H2_ := (Option.bind_some _ _).symm.trans H; rw [hy797]; with_reducible exact H2_) | (have H2_ := (Option.bind_some _ _).symm.trans H; with_reducible exact H2_) | with_reducible exact H | (rw [hy797]; exact H) | exact H
               have Ny797 := Aside0.mk hy797;clear hy797;have H' := Aside0.mk H;clear H
               try go_wp2
               have n0_ := Aside0.mk (Kd.R_drew HO_4.out)
               have n1_ := Aside0.mk (Kd.R_drew HO_6.out)
               have n2_ := Aside0.mk (blk_drew BK777.out)
               have n3_ := Aside0.mk (below_drew1 HB.out)
               clear HO_4 HO_6 BK777 HB;have HO_4 := n0_;have HO_6 := n1_;have BK777 := n2_;have HB := n3_;clear n0_ n1_ n2_ n3_
               have p785 : 0 ≤ (x24_1 : Int) := of_decide_eq_true (by first | (with_reducible assumption) | assumption)
               have q785 : x24_1 < (t778.length : Int) := of_decide_eq_true (by first | (with_reducible assumption) | assumption)
               obtain ⟨ad785, e785, hx785_0⟩ := Kd.at_int (Kd.R_reads' HO_4.out).2.2 x24_1 p785 q785
               cases e785
               replace p785 := eq_true p785;replace q785 := eq_true q785
               have p786 : 0 ≤ ((ji16) : Int) := of_decide_eq_true (by first | (with_reducible assumption) | assumption)
               have q786 : (ji16) < (t778.length : Int) := of_decide_eq_true (by first | (with_reducible assumption) | assumption)
               obtain ⟨ad786, e786, hx786_0⟩ := Kd.at_int (Kd.R_reads' HO_4.out).2.2 (ji16) p786 q786
               obtain rfl : ad785 = ad786 := (by injection e786)
               replace p786 := eq_true p786;replace q786 := eq_true q786
               refine start_ (n := 12) (S := fun w' => w'.cell? (ad785.add (x24_1).toNat) = some (.int .i64 (rd t778 x24_1)) ∧ w'.cell? (ad785.add ((ji16)).toNat) = some (.int .i64 (rd t778 (ji16)))) (ds := []) #[false, false, false, false, false, false, false, false, false, false, false, false] (by kernel_rfl) rfl rfl ⟨hx785_0, hx786_0⟩ (fun hHeld => ?_); refine with_tabW sched_Periods.tab8 sched_Periods.bits8 (fun HT_ HW_ => ?_)
               generalize wr.drew = w65 at HO_4 HO_6 BK777 HB hx785_0 hx786_0 hHeld ⊢
               refine pure_ (i := 0) (N := some 27) (v := ?_) (a' := ?_) #[true, false, false, false, false, false, false, false, false, false, false, false] rfl rfl (any_of HT_.out (by kernel_rfl)) (fun _ _ _ h => h) (Or.inl ⟨by rfl, ?_⟩) ?_ ?_
               rotate_left
               ·
                intro w'
                go_simp
                with_reducible rfl
               rotate_left
               ·
                simp only [Act.put, List.setIfInBounds_toArray, List.set_cons_zero, List.set_cons_succ, i64_w, i32_w]
                rfl
               refine pure_ (i := 1) (N := some 28) (v := ?_) (a' := ?_) #[true, true, false, false, false, false, false, false, false, false, false, false] rfl rfl (any_of HT_.out (by kernel_rfl)) (fun _ _ _ h => h) (Or.inl ⟨by rfl, ?_⟩) ?_ ?_
               rotate_left
               ·
                intro w'
                go_simp
                with_reducible rfl
               rotate_left
               ·
                simp only [Act.put, List.setIfInBounds_toArray, List.set_cons_zero, List.set_cons_succ, i64_w, i32_w]
                rfl
               refine pure_ (i := 2) (N := some 29) (v := ?_) (a' := ?_) #[true, true, true, false, false, false, false, false, false, false, false, false] rfl rfl (any_of HT_.out (by kernel_rfl)) (fun _ _ _ h => h) (Or.inl ⟨by rfl, ?_⟩) ?_ ?_
               rotate_left
               ·
                intro w'
                go_simp
                with_reducible rfl
               rotate_left
               ·
                simp only [Act.put, List.setIfInBounds_toArray, List.set_cons_zero, List.set_cons_succ, i64_w, i32_w]
                rfl
               refine pure_ (i := 4) (N := some 31) (v := ?_) (a' := ?_) #[true, true, true, false, true, false, false, false, false, false, false, false] rfl rfl (any_of HT_.out (by kernel_rfl)) (fun _ _ _ h => h) (Or.inl ⟨by rfl, ?_⟩) ?_ ?_
               rotate_left
               ·
                intro w'
                go_simp
                with_reducible rfl
               rotate_left
               ·
                simp only [Act.put, List.setIfInBounds_toArray, List.set_cons_zero, List.set_cons_succ, i64_w, i32_w]
                rfl
               refine pure_ (i := 5) (N := some 32) (v := ?_) (a' := ?_) #[true, true, true, false, true, true, false, false, false, false, false, false] rfl rfl (any_of HT_.out (by kernel_rfl)) (fun _ _ _ h => h) (Or.inl ⟨by rfl, ?_⟩) ?_ ?_
               rotate_left
               ·
                intro w'
                go_simp
                with_reducible rfl
               rotate_left
               ·
                simp only [Act.put, List.setIfInBounds_toArray, List.set_cons_zero, List.set_cons_succ, i64_w, i32_w]
                rfl
               refine pure_ (i := 6) (N := some 33) (v := ?_) (a' := ?_) #[true, true, true, false, true, true, true, false, false, false, false, false] rfl rfl (any_of HT_.out (by kernel_rfl)) (fun _ _ _ h => h) (Or.inl ⟨by rfl, ?_⟩) ?_ ?_
               rotate_left
               ·
                intro w'
                go_simp
                with_reducible rfl
               rotate_left
               ·
                simp only [Act.put, List.setIfInBounds_toArray, List.set_cons_zero, List.set_cons_succ, i64_w, i32_w]
                rfl
               refine pure_ (i := 7) (N := some 34) (v := ?_) (a' := ?_) #[true, true, true, false, true, true, true, true, false, false, false, false] rfl rfl (any_of HT_.out (by kernel_rfl)) (fun _ _ _ h => h) (Or.inl ⟨by rfl, ?_⟩) ?_ ?_
               rotate_left
               ·
                intro w'
                go_simp
                with_reducible rfl
               rotate_left
               ·
                simp only [Act.put, List.setIfInBounds_toArray, List.set_cons_zero, List.set_cons_succ, i64_w, i32_w]
                rfl
               refine take_ (i := 3) (N := some 30) (v := ?_) (a' := ?_) #[true, true, true, true, true, true, true, true, false, false, false, false] rfl rfl (take_ofW HT_.out HW_.out (by kernel_rfl)) (fun _ _ _ h => h) (Or.inl ⟨by rfl, ?_⟩) hHeld ?_ ?_
               rotate_left
               ·
                rintro w' ⟨s0, s1⟩
                go_simp
                with_reducible rfl
               rotate_left
               ·
                simp only [Act.put, List.setIfInBounds_toArray, List.set_cons_zero, List.set_cons_succ, i64_w, i32_w]
                rfl
               refine take_ (i := 8) (N := some 35) (v := ?_) (a' := ?_) #[true, true, true, true, true, true, true, true, true, false, false, false] rfl rfl (take_ofW HT_.out HW_.out (by kernel_rfl)) (fun _ _ _ h => h) (Or.inl ⟨by rfl, ?_⟩) hHeld ?_ ?_
               rotate_left
               ·
                rintro w' ⟨s0, s1⟩
                go_simp
                with_reducible rfl
               rotate_left
               ·
                simp only [Act.put, List.setIfInBounds_toArray, List.set_cons_zero, List.set_cons_succ, i64_w, i32_w]
                rfl
               refine pure_ (i := 9) (N := some 36) (v := ?_) (a' := ?_) #[true, true, true, true, true, true, true, true, true, true, false, false] rfl rfl (any_of HT_.out (by kernel_rfl)) (fun _ _ _ h => h) (Or.inl ⟨by rfl, ?_⟩) ?_ ?_
               rotate_left
               ·
                intro w'
                go_simp
                with_reducible rfl
               rotate_left
               ·
                simp only [Act.put, List.setIfInBounds_toArray, List.set_cons_zero, List.set_cons_succ, i64_w, i32_w]
                rfl
               refine one_ (i := 10) (N := some 8) #[true, true, true, true, true, true, true, true, true, true, true, false] rfl rfl (one_of HT_.out (by kernel_rfl)) (by decide) (fun K hK => ?_)
               refine box_step ?hg (N := 8) ?hd (cs := #[.int .i64 0, .int .i64 0, .int .i64 0, .int .i64 0, .int .i64 0]) (t := 81) ?hr ?_; (case hd => rfl); (case hg => rfl); (case hr => first | (go_simp; done) | (go_simp; rfl))
               intro gb787 hg w66 hbox hb
               have HS0_ := (hb.cell (World.block_lt_of_cell? _ _ (hHeld.1))).trans (hHeld.1)
               have HS1_ := (hb.cell (World.block_lt_of_cell? _ _ (hHeld.2))).trans (hHeld.2)
               have n0_ := Aside0.mk (Kd.R_below (by (with_reducible repeat (first | apply Kd.R_alloc | apply Kd.R_drewN | apply Kd.R_drew)); exact HO_4.out) hb)
               have n1_ := Aside0.mk (Kd.R_below (Kd.R_elderB (by (with_reducible repeat (first | apply Kd.R_alloc | apply Kd.R_drewN | apply Kd.R_drew)); exact HO_6.out) gb787 (Nat.le_of_eq hg.symm)) hb)
               have n2_ := Aside0.mk (blk_below (g := gb777) (o := .cells #[.int .i64 a0_0, .int .i64 a0_1, .int .i64 a0_2, .int .i64 a0_3, .int .i64 a0_4, .int .i64 a0_5, .int .i64 a0_6, .int .i64 a0_7, .int .i64 a0_8, .slice A0_9 l0_9.length c0_9] 66 (0, 0)) (by (with_reducible repeat (first | refine blk_drewN ?_ _ | refine blk_drew ?_ | refine blk_alloc ?_ _)); exact BK777.out) hb)
               have n3_ := Aside0.mk (below_step (by repeat (first | (with_reducible first | exact HB.out | apply below_alloc | apply pw_below_drewN | apply below_drew1 | refine below_set ?_ GE777.out) | exact HB.out)) hb)
               have n4_ := Aside0.mk (hbox)
               have n5_ := Aside0.mk ((by rw [hg]; exact (below_size (by repeat (first | (with_reducible first | exact HB.out | apply below_alloc | apply pw_below_drewN | apply below_drew1 | refine below_set ?_ GE777.out) | exact HB.out))) : w.heap.size ≤ gb787))
               have n6_ := Aside0.mk ((by rw [hg]; exact (below_size (by repeat (first | (with_reducible first | exact HB.out | apply below_alloc | apply pw_below_drewN | apply below_drew1 | refine below_set ?_ GE777.out) | exact HB.out))) : w.heap.size ≤ gb787))
               have n7_ := Aside0.mk ((by rw [hg]; exact Nat.ne_of_lt (blk_lt (g := gb777) (o := .cells #[.int .i64 a0_0, .int .i64 a0_1, .int .i64 a0_2, .int .i64 a0_3, .int .i64 a0_4, .int .i64 a0_5, .int .i64 a0_6, .int .i64 a0_7, .int .i64 a0_8, .slice A0_9 l0_9.length c0_9] 66 (0, 0)) (by (with_reducible repeat (first | refine blk_drewN ?_ _ | refine blk_drew ?_ | refine blk_alloc ?_ _)); exact BK777.out)) : gb777 ≠ gb787))
               have n8_ := Aside0.mk ((by rw [hg]; exact Nat.ne_of_gt (blk_lt (g := gb777) (o := .cells #[.int .i64 a0_0, .int .i64 a0_1, .int .i64 a0_2, .int .i64 a0_3, .int .i64 a0_4, .int .i64 a0_5, .int .i64 a0_6, .int .i64 a0_7, .int .i64 a0_8, .slice A0_9 l0_9.length c0_9] 66 (0, 0)) (by (with_reducible repeat (first | refine blk_drewN ?_ _ | refine blk_drew ?_ | refine blk_alloc ?_ _)); exact BK777.out)) : gb787 ≠ gb777))
               clear HO_4 HO_6 BK777 HB;have HO_4 := n0_;have HO_6 := n1_;have BK777 := n2_;have HB := n3_;have BK787 := n4_;have GW787 := n5_;have GE787 := n6_;have NB777_787 := n7_;have NB787_777 := n8_;clear n0_ n1_ n2_ n3_ n4_ n5_ n6_ n7_ n8_ hb hbox hg
               refine hK.out _ _ ⟨HS0_, HS1_⟩ (fun hHeld => ?_)
               clear hK K
               refine norm_ (a' := ?_) ?_ ?_
               rotate_left
               ·
                show Act.put _ (some 8) _ = _
                simp only [Act.put, List.setIfInBounds_toArray, List.set_cons_zero, List.set_cons_succ, i64_w, i32_w]
                rfl
               refine one_ (i := 11) (N := none) #[true, true, true, true, true, true, true, true, true, true, true, true] rfl rfl (one_of HT_.out (by kernel_rfl)) (by decide) (fun K hK => ?_)
               have hs67 : w66.cell? ⟨gb787, 0, none⟩ = some (.int .i64 0) := (blk_cell BK787.out 0).trans rfl
               have hfs67 := blk_frozen BK787.out 0;have hns67_0 := NB777_787.out;have hms67_0 := NB787_777.out
               have hs68 : w66.cell? ⟨gb787, 1, none⟩ = some (.int .i64 0) := (blk_cell BK787.out 1).trans rfl
               have hfs68 := blk_frozen BK787.out 1;have hns68_0 := NB777_787.out;have hms68_0 := NB787_777.out
               have hs69 : w66.cell? ⟨gb787, 2, none⟩ = some (.int .i64 0) := (blk_cell BK787.out 2).trans rfl
               have hfs69 := blk_frozen BK787.out 2;have hns69_0 := NB777_787.out;have hms69_0 := NB787_777.out
               have hs70 : w66.cell? ⟨gb787, 3, none⟩ = some (.int .i64 0) := (blk_cell BK787.out 3).trans rfl
               have hfs70 := blk_frozen BK787.out 3;have hns70_0 := NB777_787.out;have hms70_0 := NB787_777.out
               have hs71 : w66.cell? ⟨gb787, 4, none⟩ = some (.int .i64 0) := (blk_cell BK787.out 4).trans rfl
               have hfs71 := blk_frozen BK787.out 4;have hns71_0 := NB777_787.out;have hms71_0 := NB787_777.out
               refine skip_ (w1 := ?_) (by rfl) rfl ?_ ?_
               rotate_left
               ·
                go_simp
                rfl
               refine hK.out _ _ ⟨((cell_far (p := ⟨gb787, _, none⟩) (by first | exact Kd.own_blk (Kd.R_ne HO_4.out BK787.out (by decide)) | (rw [add_block]; exact Kd.own_blk (Kd.R_ne HO_4.out BK787.out (by decide))) | (show (Addr.add _ _).block ≠ _; rw [add_block]; exact Kd.own_blk (Kd.R_ne HO_4.out BK787.out (by decide))) | (dsimp only; exact Kd.own_blk (Kd.R_ne HO_4.out BK787.out (by decide)))) _).trans (((cell_far (p := ⟨gb787, _, none⟩) (by first | exact Kd.own_blk (Kd.R_ne HO_4.out BK787.out (by decide)) | (rw [add_block]; exact Kd.own_blk (Kd.R_ne HO_4.out BK787.out (by decide))) | (show (Addr.add _ _).block ≠ _; rw [add_block]; exact Kd.own_blk (Kd.R_ne HO_4.out BK787.out (by decide))) | (dsimp only; exact Kd.own_blk (Kd.R_ne HO_4.out BK787.out (by decide)))) _).trans (((cell_far (p := ⟨gb787, _, none⟩) (by first | exact Kd.own_blk (Kd.R_ne HO_4.out BK787.out (by decide)) | (rw [add_block]; exact Kd.own_blk (Kd.R_ne HO_4.out BK787.out (by decide))) | (show (Addr.add _ _).block ≠ _; rw [add_block]; exact Kd.own_blk (Kd.R_ne HO_4.out BK787.out (by decide))) | (dsimp only; exact Kd.own_blk (Kd.R_ne HO_4.out BK787.out (by decide)))) _).trans (((cell_far (p := ⟨gb787, _, none⟩) (by first | exact Kd.own_blk (Kd.R_ne HO_4.out BK787.out (by decide)) | (rw [add_block]; exact Kd.own_blk (Kd.R_ne HO_4.out BK787.out (by decide))) | (show (Addr.add _ _).block ≠ _; rw [add_block]; exact Kd.own_blk (Kd.R_ne HO_4.out BK787.out (by decide))) | (dsimp only; exact Kd.own_blk (Kd.R_ne HO_4.out BK787.out (by decide)))) _).trans (((cell_far (p := ⟨gb787, _, none⟩) (by first | exact Kd.own_blk (Kd.R_ne HO_4.out BK787.out (by decide)) | (rw [add_block]; exact Kd.own_blk (Kd.R_ne HO_4.out BK787.out (by decide))) | (show (Addr.add _ _).block ≠ _; rw [add_block]; exact Kd.own_blk (Kd.R_ne HO_4.out BK787.out (by decide))) | (dsimp only; exact Kd.own_blk (Kd.R_ne HO_4.out BK787.out (by decide)))) _).trans (hHeld.1)))))))))), ((cell_far (p := ⟨gb787, _, none⟩) (by first | exact Kd.own_blk (Kd.R_ne HO_4.out BK787.out (by decide)) | (rw [add_block]; exact Kd.own_blk (Kd.R_ne HO_4.out BK787.out (by decide))) | (show (Addr.add _ _).block ≠ _; rw [add_block]; exact Kd.own_blk (Kd.R_ne HO_4.out BK787.out (by decide))) | (dsimp only; exact Kd.own_blk (Kd.R_ne HO_4.out BK787.out (by decide)))) _).trans (((cell_far (p := ⟨gb787, _, none⟩) (by first | exact Kd.own_blk (Kd.R_ne HO_4.out BK787.out (by decide)) | (rw [add_block]; exact Kd.own_blk (Kd.R_ne HO_4.out BK787.out (by decide))) | (show (Addr.add _ _).block ≠ _; rw [add_block]; exact Kd.own_blk (Kd.R_ne HO_4.out BK787.out (by decide))) | (dsimp only; exact Kd.own_blk (Kd.R_ne HO_4.out BK787.out (by decide)))) _).trans (((cell_far (p := ⟨gb787, _, none⟩) (by first | exact Kd.own_blk (Kd.R_ne HO_4.out BK787.out (by decide)) | (rw [add_block]; exact Kd.own_blk (Kd.R_ne HO_4.out BK787.out (by decide))) | (show (Addr.add _ _).block ≠ _; rw [add_block]; exact Kd.own_blk (Kd.R_ne HO_4.out BK787.out (by decide))) | (dsimp only; exact Kd.own_blk (Kd.R_ne HO_4.out BK787.out (by decide)))) _).trans (((cell_far (p := ⟨gb787, _, none⟩) (by first | exact Kd.own_blk (Kd.R_ne HO_4.out BK787.out (by decide)) | (rw [add_block]; exact Kd.own_blk (Kd.R_ne HO_4.out BK787.out (by decide))) | (show (Addr.add _ _).block ≠ _; rw [add_block]; exact Kd.own_blk (Kd.R_ne HO_4.out BK787.out (by decide))) | (dsimp only; exact Kd.own_blk (Kd.R_ne HO_4.out BK787.out (by decide)))) _).trans (((cell_far (p := ⟨gb787, _, none⟩) (by first | exact Kd.own_blk (Kd.R_ne HO_4.out BK787.out (by decide)) | (rw [add_block]; exact Kd.own_blk (Kd.R_ne HO_4.out BK787.out (by decide))) | (show (Addr.add _ _).block ≠ _; rw [add_block]; exact Kd.own_blk (Kd.R_ne HO_4.out BK787.out (by decide))) | (dsimp only; exact Kd.own_blk (Kd.R_ne HO_4.out BK787.out (by decide)))) _).trans (hHeld.2))))))))))⟩ (fun hHeld => ?_)
               clear hK K
               refine done_ (done_of HT_.out (by kernel_rfl)) ?_
               have hnb72 := NB777_787.out;have hnc72 := NB787_777.out
               have hcz73_0 : w66.cell? ⟨gb777, 0, none⟩ = some (.int .i64 a0_0) := (blk_cell BK777.out 0).trans rfl
               have hcz73_1 : w66.cell? ⟨gb777, 1, none⟩ = some (.int .i64 a0_1) := (blk_cell BK777.out 1).trans rfl
               have hcz73_2 : w66.cell? ⟨gb777, 2, none⟩ = some (.int .i64 a0_2) := (blk_cell BK777.out 2).trans rfl
               have hcz73_3 : w66.cell? ⟨gb777, 3, none⟩ = some (.int .i64 a0_3) := (blk_cell BK777.out 3).trans rfl
               have hcz73_4 : w66.cell? ⟨gb777, 4, none⟩ = some (.int .i64 a0_4) := (blk_cell BK777.out 4).trans rfl
               have hcz73_5 : w66.cell? ⟨gb777, 5, none⟩ = some (.int .i64 a0_5) := (blk_cell BK777.out 5).trans rfl
               have hcz73_6 : w66.cell? ⟨gb777, 6, none⟩ = some (.int .i64 a0_6) := (blk_cell BK777.out 6).trans rfl
               have hcz73_7 : w66.cell? ⟨gb777, 7, none⟩ = some (.int .i64 a0_7) := (blk_cell BK777.out 7).trans rfl
               have hcz73_8 : w66.cell? ⟨gb777, 8, none⟩ = some (.int .i64 a0_8) := (blk_cell BK777.out 8).trans rfl
               have hcz73_9 : w66.cell? ⟨gb777, 9, none⟩ = some (.slice A0_9 l0_9.length c0_9) := (blk_cell BK777.out 9).trans rfl
               have hfz73_0 := blk_frozen BK777.out 0;have hfz73_1 := blk_frozen BK777.out 1;have hfz73_2 := blk_frozen BK777.out 2;have hfz73_3 := blk_frozen BK777.out 3;have hfz73_4 := blk_frozen BK777.out 4;have hfz73_5 := blk_frozen BK777.out 5;have hfz73_6 := blk_frozen BK777.out 6;have hfz73_7 := blk_frozen BK777.out 7;have hfz73_8 := blk_frozen BK777.out 8;have hfz73_9 := blk_frozen BK777.out 9
               have hcz74_0 : w66.cell? ⟨gb787, 0, none⟩ = some (.int .i64 0) := (blk_cell BK787.out 0).trans rfl
               have hcz74_1 : w66.cell? ⟨gb787, 1, none⟩ = some (.int .i64 0) := (blk_cell BK787.out 1).trans rfl
               have hcz74_2 : w66.cell? ⟨gb787, 2, none⟩ = some (.int .i64 0) := (blk_cell BK787.out 2).trans rfl
               have hcz74_3 : w66.cell? ⟨gb787, 3, none⟩ = some (.int .i64 0) := (blk_cell BK787.out 3).trans rfl
               have hcz74_4 : w66.cell? ⟨gb787, 4, none⟩ = some (.int .i64 0) := (blk_cell BK787.out 4).trans rfl
               have hfz74_0 := blk_frozen BK787.out 0;have hfz74_1 := blk_frozen BK787.out 1;have hfz74_2 := blk_frozen BK787.out 2;have hfz74_3 := blk_frozen BK787.out 3;have hfz74_4 := blk_frozen BK787.out 4
               try go_wp2_with (first | ((with_reducible refine gate_callee (f := 38) rfl ?_); refine goesL_ (some 44) rfl rfl Try.func38 (by kernel_rfl) rfl #[.agg #[.int .i64 a0_8, .slice A0_9 l0_9.length c0_9], .int .i64 (rd t778 x24_1), .int .i64 a0_6] rfl (by (try simp only [List.map_toArray, List.map_cons, List.map_nil]); first | done | rfl | (simp only [List.length_drop, List.length_take]; rfl)) ?_; (with_reducible refine (cal_Adjust.calls a0_8 _ _ l0_9 (rd t778 x24_1) a0_6 t788 t789 _ ?side1 ?side2 A19.out).mono ?_); (case side1 => exact Kd.C_below HR0_9.out (by repeat (first | (with_reducible first | exact HB.out | apply below_alloc | apply pw_below_drewN | apply below_drew1 | refine below_set ?_ GE777.out | refine below_set ?_ GE787.out) | exact HB.out))); (case side2 => exact HC0_9.out); rintro e w75 ⟨rfl, hb⟩; refine ⟨_, rfl, ?_⟩; have n0_ := Aside0.mk (Kd.R_below (by (with_reducible repeat (first | apply Kd.R_alloc | apply Kd.R_drewN | apply Kd.R_drew)); exact (Kd.R_mono (Kd.R_far (p := ⟨gb787, 4, none⟩) (Kd.R_far (p := ⟨gb787, 3, none⟩) (Kd.R_far (p := ⟨gb787, 2, none⟩) (Kd.R_far (p := ⟨gb787, 1, none⟩) (Kd.R_far (p := ⟨gb787, 0, none⟩) (Kd.R_types HO_4.out BK787.out (by decide)) (fun _ hk => hk.2) (.int .i64 (rd t778 x24_1))) (fun _ hk => hk.2) (.int .i64 (rd t778 (ji16)))) (fun _ hk => hk.2) (.int .i64 0)) (fun _ hk => hk.2) (.int .i64 0)) (fun _ hk => hk.2) (.int .i64 0)) (fun _ h_ => h_.1))) hb); have n1_ := Aside0.mk (Kd.R_below (by (with_reducible repeat (first | apply Kd.R_alloc | apply Kd.R_drewN | apply Kd.R_drew)); exact (Kd.R_mono (Kd.R_far (p := ⟨gb787, 4, none⟩) (Kd.R_far (p := ⟨gb787, 3, none⟩) (Kd.R_far (p := ⟨gb787, 2, none⟩) (Kd.R_far (p := ⟨gb787, 1, none⟩) (Kd.R_far (p := ⟨gb787, 0, none⟩) (Kd.R_mono HO_6.out (fun k_ hk => (⟨hk, hk.2⟩ : _ ∧ k_ ≠ gb787))) (fun _ hk => hk.2) (.int .i64 (rd t778 x24_1))) (fun _ hk => hk.2) (.int .i64 (rd t778 (ji16)))) (fun _ hk => hk.2) (.int .i64 0)) (fun _ hk => hk.2) (.int .i64 0)) (fun _ hk => hk.2) (.int .i64 0)) (fun _ h_ => h_.1))) hb); have n2_ := Aside0.mk (blk_below (g := gb777) (o := .cells #[.int .i64 a0_0, .int .i64 a0_1, .int .i64 a0_2, .int .i64 a0_3, .int .i64 a0_4, .int .i64 a0_5, .int .i64 a0_6, .int .i64 a0_7, .int .i64 a0_8, .slice A0_9 l0_9.length c0_9] 66 (0, 0)) (by (with_reducible repeat (first | refine blk_drewN ?_ _ | refine blk_drew ?_ | refine blk_alloc ?_ _)); refine blk_far ?_ NB777_787.out _; (with_reducible repeat (first | refine blk_drewN ?_ _ | refine blk_drew ?_ | refine blk_alloc ?_ _)); refine blk_far ?_ NB777_787.out _; (with_reducible repeat (first | refine blk_drewN ?_ _ | refine blk_drew ?_ | refine blk_alloc ?_ _)); refine blk_far ?_ NB777_787.out _; (with_reducible repeat (first | refine blk_drewN ?_ _ | refine blk_drew ?_ | refine blk_alloc ?_ _)); refine blk_far ?_ NB777_787.out _; (with_reducible repeat (first | refine blk_drewN ?_ _ | refine blk_drew ?_ | refine blk_alloc ?_ _)); refine blk_far ?_ NB777_787.out _; (with_reducible repeat (first | refine blk_drewN ?_ _ | refine blk_drew ?_ | refine blk_alloc ?_ _)); exact BK777.out) hb); have n3_ := Aside0.mk (blk_below (g := gb787) (o := .cells #[.int .i64 (rd t778 x24_1), .int .i64 (rd t778 (ji16)), .int .i64 0, .int .i64 0, .int .i64 0] 81 (0, 0)) (by (with_reducible repeat (first | refine blk_drewN ?_ _ | refine blk_drew ?_ | refine blk_alloc ?_ _)); refine blk_put (cs := #[.int .i64 (rd t778 x24_1), .int .i64 (rd t778 (ji16)), .int .i64 0, .int .i64 0, .int .i64 0]) ?_ 4 _ rfl; (with_reducible repeat (first | refine blk_drewN ?_ _ | refine blk_drew ?_ | refine blk_alloc ?_ _)); refine blk_put (cs := #[.int .i64 (rd t778 x24_1), .int .i64 (rd t778 (ji16)), .int .i64 0, .int .i64 0, .int .i64 0]) ?_ 3 _ rfl; (with_reducible repeat (first | refine blk_drewN ?_ _ | refine blk_drew ?_ | refine blk_alloc ?_ _)); refine blk_put (cs := #[.int .i64 (rd t778 x24_1), .int .i64 (rd t778 (ji16)), .int .i64 0, .int .i64 0, .int .i64 0]) ?_ 2 _ rfl; (with_reducible repeat (first | refine blk_drewN ?_ _ | refine blk_drew ?_ | refine blk_alloc ?_ _)); refine blk_put (cs := #[.int .i64 (rd t778 x24_1), .int .i64 0, .int .i64 0, .int .i64 0, .int .i64 0]) ?_ 1 _ rfl; (with_reducible repeat (first | refine blk_drewN ?_ _ | refine blk_drew ?_ | refine blk_alloc ?_ _)); refine blk_put (cs := #[.int .i64 0, .int .i64 0, .int .i64 0, .int .i64 0, .int .i64 0]) ?_ 0 _ rfl; (with_reducible repeat (first | refine blk_drewN ?_ _ | refine blk_drew ?_ | refine blk_alloc ?_ _)); exact BK787.out) hb); have n4_ := Aside0.mk (below_step (by repeat (first | (with_reducible first | exact HB.out | apply below_alloc | apply pw_below_drewN | apply below_drew1 | refine below_set ?_ GE777.out | refine below_set ?_ GE787.out) | exact HB.out)) hb); clear HO_4; clear HO_6; clear BK777; clear BK787; clear HB; have HO_4 := n0_; have HO_6 := n1_; have BK777 := n2_; have BK787 := n3_; have HB := n4_; clear n0_ n1_ n2_ n3_ n4_; (try clear hb); (try clear hb2); (try clear hk); (try clear hi); have hcz76_0 : w75.cell? ⟨gb787, 0, none⟩ = some (.int .i64 (rd t778 x24_1)) := (blk_cell BK787.out 0).trans rfl; have hcz76_1 : w75.cell? ⟨gb787, 1, none⟩ = some (.int .i64 (rd t778 (ji16))) := (blk_cell BK787.out 1).trans rfl; have hcz76_2 : w75.cell? ⟨gb787, 2, none⟩ = some (.int .i64 0) := (blk_cell BK787.out 2).trans rfl; have hcz76_3 : w75.cell? ⟨gb787, 3, none⟩ = some (.int .i64 0) := (blk_cell BK787.out 3).trans rfl; have hcz76_4 : w75.cell? ⟨gb787, 4, none⟩ = some (.int .i64 0) := (blk_cell BK787.out 4).trans rfl; have hfz76_0 := blk_frozen BK787.out 0; have hfz76_1 := blk_frozen BK787.out 1; have hfz76_2 := blk_frozen BK787.out 2; have hfz76_3 := blk_frozen BK787.out 3; have hfz76_4 := blk_frozen BK787.out 4; have hcz77_0 : w75.cell? ⟨gb777, 0, none⟩ = some (.int .i64 a0_0) := (blk_cell BK777.out 0).trans rfl; have hcz77_1 : w75.cell? ⟨gb777, 1, none⟩ = some (.int .i64 a0_1) := (blk_cell BK777.out 1).trans rfl; have hcz77_2 : w75.cell? ⟨gb777, 2, none⟩ = some (.int .i64 a0_2) := (blk_cell BK777.out 2).trans rfl; have hcz77_3 : w75.cell? ⟨gb777, 3, none⟩ = some (.int .i64 a0_3) := (blk_cell BK777.out 3).trans rfl; have hcz77_4 : w75.cell? ⟨gb777, 4, none⟩ = some (.int .i64 a0_4) := (blk_cell BK777.out 4).trans rfl; have hcz77_5 : w75.cell? ⟨gb777, 5, none⟩ = some (.int .i64 a0_5) := (blk_cell BK777.out 5).trans rfl; have hcz77_6 : w75.cell? ⟨gb777, 6, none⟩ = some (.int .i64 a0_6) := (blk_cell BK777.out 6).trans rfl; have hcz77_7 : w75.cell? ⟨gb777, 7, none⟩ = some (.int .i64 a0_7) := (blk_cell BK777.out 7).trans rfl; have hcz77_8 : w75.cell? ⟨gb777, 8, none⟩ = some (.int .i64 a0_8) := (blk_cell BK777.out 8).trans rfl; have hcz77_9 : w75.cell? ⟨gb777, 9, none⟩ = some (.slice A0_9 l0_9.length c0_9) := (blk_cell BK777.out 9).trans rfl; have hfz77_0 := blk_frozen BK777.out 0; have hfz77_1 := blk_frozen BK777.out 1; have hfz77_2 := blk_frozen BK777.out 2; have hfz77_3 := blk_frozen BK777.out 3; have hfz77_4 := blk_frozen BK777.out 4; have hfz77_5 := blk_frozen BK777.out 5; have hfz77_6 := blk_frozen BK777.out 6; have hfz77_7 := blk_frozen BK777.out 7; have hfz77_8 := blk_frozen BK777.out 8; have hfz77_9 := blk_frozen BK777.out 9) | ((with_reducible refine gate_callee (f := 38) rfl ?_); refine goesL_ (some 58) rfl rfl Try.func38 (by kernel_rfl) rfl #[.agg #[.int .i64 a0_8, .slice A0_9 l0_9.length c0_9], .int .i64 (rd t778 (ji16)), .int .i64 a0_6] rfl (by (try simp only [List.map_toArray, List.map_cons, List.map_nil]); first | done | (simp only [hji16]; rfl) | rfl | (simp only [List.length_drop, List.length_take]; rfl)) ?_; (with_reducible refine (cal_Adjust.calls a0_8 _ _ l0_9 (rd t778 (ji16)) a0_6 t790 t791 _ ?side1 ?side2 A21.out).mono ?_); (case side1 => exact Kd.C_below HR0_9.out (by repeat (first | (with_reducible first | exact HB.out | apply below_alloc | apply pw_below_drewN | apply below_drew1 | refine below_set ?_ GE777.out | refine below_set ?_ GE787.out) | exact HB.out))); (case side2 => exact HC0_9.out); rintro e w78 ⟨rfl, hb⟩; refine ⟨_, rfl, ?_⟩; have n0_ := Aside0.mk (Kd.R_below (by (with_reducible repeat (first | apply Kd.R_alloc | apply Kd.R_drewN | apply Kd.R_drew)); exact (Kd.R_mono (Kd.R_far (p := ⟨gb787, 2, none⟩) (Kd.R_types HO_4.out BK787.out (by decide)) (fun _ hk => hk.2) (.int .i64 t788)) (fun _ h_ => h_.1))) hb); have n1_ := Aside0.mk (Kd.R_below (by (with_reducible repeat (first | apply Kd.R_alloc | apply Kd.R_drewN | apply Kd.R_drew)); exact (Kd.R_mono (Kd.R_far (p := ⟨gb787, 2, none⟩) (Kd.R_mono HO_6.out (fun k_ hk => (⟨hk, hk.2⟩ : _ ∧ k_ ≠ gb787))) (fun _ hk => hk.2) (.int .i64 t788)) (fun _ h_ => h_.1))) hb); have n2_ := Aside0.mk (blk_below (g := gb777) (o := .cells #[.int .i64 a0_0, .int .i64 a0_1, .int .i64 a0_2, .int .i64 a0_3, .int .i64 a0_4, .int .i64 a0_5, .int .i64 a0_6, .int .i64 a0_7, .int .i64 a0_8, .slice A0_9 l0_9.length c0_9] 66 (0, 0)) (by (with_reducible repeat (first | refine blk_drewN ?_ _ | refine blk_drew ?_ | refine blk_alloc ?_ _)); refine blk_far ?_ NB777_787.out _; (with_reducible repeat (first | refine blk_drewN ?_ _ | refine blk_drew ?_ | refine blk_alloc ?_ _)); exact BK777.out) hb); have n3_ := Aside0.mk (blk_below (g := gb787) (o := .cells #[.int .i64 (rd t778 x24_1), .int .i64 (rd t778 (ji16)), .int .i64 t788, .int .i64 0, .int .i64 0] 81 (0, 0)) (by (with_reducible repeat (first | refine blk_drewN ?_ _ | refine blk_drew ?_ | refine blk_alloc ?_ _)); refine blk_put (cs := #[.int .i64 (rd t778 x24_1), .int .i64 (rd t778 (ji16)), .int .i64 0, .int .i64 0, .int .i64 0]) ?_ 2 _ rfl; (with_reducible repeat (first | refine blk_drewN ?_ _ | refine blk_drew ?_ | refine blk_alloc ?_ _)); exact BK787.out) hb); have n4_ := Aside0.mk (below_step (by repeat (first | (with_reducible first | exact HB.out | apply below_alloc | apply pw_below_drewN | apply below_drew1 | refine below_set ?_ GE777.out | refine below_set ?_ GE787.out) | exact HB.out)) hb); clear HO_4; clear HO_6; clear BK777; clear BK787; clear HB; have HO_4 := n0_; have HO_6 := n1_; have BK777 := n2_; have BK787 := n3_; have HB := n4_; clear n0_ n1_ n2_ n3_ n4_; (try clear hb); (try clear hb2); (try clear hk); (try clear hi); have hcz79_0 : w78.cell? ⟨gb787, 0, none⟩ = some (.int .i64 (rd t778 x24_1)) := (blk_cell BK787.out 0).trans rfl; have hcz79_1 : w78.cell? ⟨gb787, 1, none⟩ = some (.int .i64 (rd t778 (ji16))) := (blk_cell BK787.out 1).trans rfl; have hcz79_2 : w78.cell? ⟨gb787, 2, none⟩ = some (.int .i64 t788) := (blk_cell BK787.out 2).trans rfl; have hcz79_3 : w78.cell? ⟨gb787, 3, none⟩ = some (.int .i64 0) := (blk_cell BK787.out 3).trans rfl; have hcz79_4 : w78.cell? ⟨gb787, 4, none⟩ = some (.int .i64 0) := (blk_cell BK787.out 4).trans rfl; have hfz79_0 := blk_frozen BK787.out 0; have hfz79_1 := blk_frozen BK787.out 1; have hfz79_2 := blk_frozen BK787.out 2; have hfz79_3 := blk_frozen BK787.out 3; have hfz79_4 := blk_frozen BK787.out 4; have hcz80_0 : w78.cell? ⟨gb777, 0, none⟩ = some (.int .i64 a0_0) := (blk_cell BK777.out 0).trans rfl; have hcz80_1 : w78.cell? ⟨gb777, 1, none⟩ = some (.int .i64 a0_1) := (blk_cell BK777.out 1).trans rfl; have hcz80_2 : w78.cell? ⟨gb777, 2, none⟩ = some (.int .i64 a0_2) := (blk_cell BK777.out 2).trans rfl; have hcz80_3 : w78.cell? ⟨gb777, 3, none⟩ = some (.int .i64 a0_3) := (blk_cell BK777.out 3).trans rfl; have hcz80_4 : w78.cell? ⟨gb777, 4, none⟩ = some (.int .i64 a0_4) := (blk_cell BK777.out 4).trans rfl; have hcz80_5 : w78.cell? ⟨gb777, 5, none⟩ = some (.int .i64 a0_5) := (blk_cell BK777.out 5).trans rfl; have hcz80_6 : w78.cell? ⟨gb777, 6, none⟩ = some (.int .i64 a0_6) := (blk_cell BK777.out 6).trans rfl; have hcz80_7 : w78.cell? ⟨gb777, 7, none⟩ = some (.int .i64 a0_7) := (blk_cell BK777.out 7).trans rfl; have hcz80_8 : w78.cell? ⟨gb777, 8, none⟩ = some (.int .i64 a0_8) := (blk_cell BK777.out 8).trans rfl; have hcz80_9 : w78.cell? ⟨gb777, 9, none⟩ = some (.slice A0_9 l0_9.length c0_9) := (blk_cell BK777.out 9).trans rfl; have hfz80_0 := blk_frozen BK777.out 0; have hfz80_1 := blk_frozen BK777.out 1; have hfz80_2 := blk_frozen BK777.out 2; have hfz80_3 := blk_frozen BK777.out 3; have hfz80_4 := blk_frozen BK777.out 4; have hfz80_5 := blk_frozen BK777.out 5; have hfz80_6 := blk_frozen BK777.out 6; have hfz80_7 := blk_frozen BK777.out 7; have hfz80_8 := blk_frozen BK777.out 8; have hfz80_9 := blk_frozen BK777.out 9) | ((with_reducible refine gate_builtin (b := .append) (xs := #[.tmp 85, .tmp 87]) rfl ?_); at_builtin; refine Kd.R_append k81 (w0 := w) w.heap.size rfl (.tmp 85) (.tmp 87) 74 81 (.agg #[(.int .i64 0), (.int .i64 0), (.int .i64 0), (.int .i64 0), (.int .i64 0)]) 40 rfl Try.underlying74 info81 rfl (by decide) (by omega) u6 x6_1 (⟨rd t778 x24_1, rd t778 (ji16), t788, t790, t790⟩ : S81) [.int .i64 (rd t778 x24_1), .int .i64 (rd t778 (ji16)), .int .i64 t788, .int .i64 t790, .int .i64 t790] (fun k_ => k_ ≠ gb787) (fun _ => False) rfl (by first | (go_simp; done) | (go_simp; rfl)) ?aP (fun _ hk => hk.elim) ?aF ?aO ?aB ?aS ?aL ?_; (case aP => exact k81_mkM _ _ _ (⟨rd t778 x24_1, rd t778 (ji16), t788, t790, t790⟩ : S81)); (case aB => exact (by repeat (first | (with_reducible first | exact HB.out | apply below_alloc | apply pw_below_drewN | apply below_drew1 | refine below_set ?_ GE777.out | refine below_set ?_ GE787.out) | exact HB.out))); (case aF => exact (fun k_ hk => Kd.freshB (g := gb787) (o := .cells #[.int .i64 (rd t778 x24_1), .int .i64 (rd t778 (ji16)), .int .i64 t788, .int .i64 t790, .int .i64 t790] 81 (0, 0)) (by (with_reducible repeat (first | refine blk_drewN ?_ _ | refine blk_drew ?_ | refine blk_alloc ?_ _)); refine blk_put (cs := #[.int .i64 (rd t778 x24_1), .int .i64 (rd t778 (ji16)), .int .i64 t788, .int .i64 t790, .int .i64 0]) ?_ 4 _ rfl; (with_reducible repeat (first | refine blk_drewN ?_ _ | refine blk_drew ?_ | refine blk_alloc ?_ _)); refine blk_put (cs := #[.int .i64 (rd t778 x24_1), .int .i64 (rd t778 (ji16)), .int .i64 t788, .int .i64 0, .int .i64 0]) ?_ 3 _ rfl; (with_reducible repeat (first | refine blk_drewN ?_ _ | refine blk_drew ?_ | refine blk_alloc ?_ _)); exact BK787.out) k_ hk)); (case aO => exact (by (with_reducible repeat (first | apply Kd.R_alloc | apply Kd.R_drewN | apply Kd.R_drew)); exact Kd.R_mono (Kd.R_far (p := ⟨gb787, 4, none⟩) (Kd.R_far (p := ⟨gb787, 3, none⟩) (Kd.R_mono HO_6.out (fun k_ hk => (⟨hk, hk.2⟩ : _ ∧ k_ ≠ gb787))) (fun _ hk => hk.2) (.int .i64 t790)) (fun _ hk => hk.2) (.int .i64 t790)) (fun _ hk => hk.1.2))); (case aS => exact (below_size (by repeat (first | (with_reducible first | exact HB.out | apply below_alloc | apply pw_below_drewN | apply below_drew1 | refine below_set ?_ GE777.out | refine below_set ?_ GE787.out) | exact HB.out)))); (case aL => have := LMc64.out; omega); intro v798 w81 ho hb hg hat; rw [← Ny797.out] at ho; have n0_ := Aside0.mk (Kd.R_over' (by (with_reducible repeat (first | apply Kd.R_alloc | apply Kd.R_drewN | apply Kd.R_drew)); exact (Kd.R_mono (Kd.R_far (p := ⟨gb787, 4, none⟩) (Kd.R_far (p := ⟨gb787, 3, none⟩) (Kd.R_types HO_4.out BK787.out (by decide)) (fun _ hk => hk.2) (.int .i64 t790)) (fun _ hk => hk.2) (.int .i64 t790)) (fun _ h_ => h_.1))) (Kd.R_typed (by (with_reducible repeat (first | apply Kd.R_alloc | apply Kd.R_drewN | apply Kd.R_drew)); exact (Kd.R_mono (Kd.R_far (p := ⟨gb787, 4, none⟩) (Kd.R_far (p := ⟨gb787, 3, none⟩) (Kd.R_mono HO_6.out (fun k_ hk => (⟨hk, hk.2⟩ : _ ∧ k_ ≠ gb787))) (fun _ hk => hk.2) (.int .i64 t790)) (fun _ hk => hk.2) (.int .i64 t790)) (fun _ h_ => h_.1)))) (by decide) hg); have n1_ := Aside0.mk (blk_grown (g := gb777) (o := .cells #[.int .i64 a0_0, .int .i64 a0_1, .int .i64 a0_2, .int .i64 a0_3, .int .i64 a0_4, .int .i64 a0_5, .int .i64 a0_6, .int .i64 a0_7, .int .i64 a0_8, .slice A0_9 l0_9.length c0_9] 66 (0, 0)) (by (with_reducible repeat (first | refine blk_drewN ?_ _ | refine blk_drew ?_ | refine blk_alloc ?_ _)); refine blk_far ?_ NB777_787.out _; (with_reducible repeat (first | refine blk_drewN ?_ _ | refine blk_drew ?_ | refine blk_alloc ?_ _)); refine blk_far ?_ NB777_787.out _; (with_reducible repeat (first | refine blk_drewN ?_ _ | refine blk_drew ?_ | refine blk_alloc ?_ _)); exact BK777.out) hg (Kd.R_ne HO_6.out BK777.out (by decide))); have n2_ := Aside0.mk (blk_grown (g := gb787) (o := .cells #[.int .i64 (rd t778 x24_1), .int .i64 (rd t778 (ji16)), .int .i64 t788, .int .i64 t790, .int .i64 t790] 81 (0, 0)) (by (with_reducible repeat (first | refine blk_drewN ?_ _ | refine blk_drew ?_ | refine blk_alloc ?_ _)); refine blk_put (cs := #[.int .i64 (rd t778 x24_1), .int .i64 (rd t778 (ji16)), .int .i64 t788, .int .i64 t790, .int .i64 0]) ?_ 4 _ rfl; (with_reducible repeat (first | refine blk_drewN ?_ _ | refine blk_drew ?_ | refine blk_alloc ?_ _)); refine blk_put (cs := #[.int .i64 (rd t778 x24_1), .int .i64 (rd t778 (ji16)), .int .i64 t788, .int .i64 0, .int .i64 0]) ?_ 3 _ rfl; (with_reducible repeat (first | refine blk_drewN ?_ _ | refine blk_drew ?_ | refine blk_alloc ?_ _)); exact BK787.out) hg (Kd.R_away HO_6.out (fun _ hk => hk.2))); have n3_ := Aside0.mk (hb); have n4_ := Aside0.mk (ho); clear HO_4; clear BK777; clear BK787; clear HB; clear HO_6; have HO_4 := n0_; have BK777 := n1_; have BK787 := n2_; have HB := n3_; have HO799 := n4_; clear n0_ n1_ n2_ n3_ n4_; clear ho hb hg hat))
               go_roundg k1
               case measure => have := HK1.out; omega
               case rel => exact ⟨(y797), (ji16), (by first | rfl | (simp; done) | (simp only [← hji16] <;> (first | rfl | simp)) | (simp [*]; done)), H', ⟨by have := HK1.out; omega⟩, ⟨by (with_reducible repeat (first | apply Kd.R_alloc | apply Kd.R_drewN | apply Kd.R_drew)); exact HO_4.out⟩, ⟨by (with_reducible repeat (first | apply Kd.R_alloc | apply Kd.R_drewN | apply Kd.R_drew)); exact Kd.R_mono HO799.out (fun _ hk => trivial)⟩, ⟨by (with_reducible repeat (first | refine blk_drewN ?_ _ | refine blk_drew ?_ | refine blk_alloc ?_ _)); exact BK777.out⟩, ⟨by repeat (first | (with_reducible first | exact HB.out | apply below_alloc | apply pw_below_drewN | apply below_drew1 | refine below_set ?_ GE777.out | refine below_set ?_ GE787.out) | exact HB.out)⟩⟩
              ·
               rw [if_neg c64] at H
               exact absurd H (by simp)
            ·
             rw [if_neg c22] at H
             have c22b0 : (t791 == 0) = false := beq_eq_false_iff_ne.mpr c22
             have c22b1 : (t791 != 0) = true := bne_iff_ne.mpr c22
             simp only [Option.some.injEq, Prod.mk.injEq] at H
             obtain ⟨rfl, rfl⟩ := H
             try go_wp2
             have n0_ := Aside0.mk (Kd.R_drew HO_4.out)
             have n1_ := Aside0.mk (Kd.R_drew HO_6.out)
             have n2_ := Aside0.mk (blk_drew BK777.out)
             have n3_ := Aside0.mk (below_drew1 HB.out)
             clear HO_4 HO_6 BK777 HB;have HO_4 := n0_;have HO_6 := n1_;have BK777 := n2_;have HB := n3_;clear n0_ n1_ n2_ n3_
             have p785 : 0 ≤ (x24_1 : Int) := of_decide_eq_true (by first | (with_reducible assumption) | assumption)
             have q785 : x24_1 < (t778.length : Int) := of_decide_eq_true (by first | (with_reducible assumption) | assumption)
             obtain ⟨ad785, e785, hx785_0⟩ := Kd.at_int (Kd.R_reads' HO_4.out).2.2 x24_1 p785 q785
             cases e785
             replace p785 := eq_true p785;replace q785 := eq_true q785
             have p786 : 0 ≤ ((ji16) : Int) := of_decide_eq_true (by first | (with_reducible assumption) | assumption)
             have q786 : (ji16) < (t778.length : Int) := of_decide_eq_true (by first | (with_reducible assumption) | assumption)
             obtain ⟨ad786, e786, hx786_0⟩ := Kd.at_int (Kd.R_reads' HO_4.out).2.2 (ji16) p786 q786
             obtain rfl : ad785 = ad786 := (by injection e786)
             replace p786 := eq_true p786;replace q786 := eq_true q786
             refine start_ (n := 12) (S := fun w' => w'.cell? (ad785.add (x24_1).toNat) = some (.int .i64 (rd t778 x24_1)) ∧ w'.cell? (ad785.add ((ji16)).toNat) = some (.int .i64 (rd t778 (ji16)))) (ds := []) #[false, false, false, false, false, false, false, false, false, false, false, false] (by kernel_rfl) rfl rfl ⟨hx785_0, hx786_0⟩ (fun hHeld => ?_); refine with_tabW sched_Periods.tab8 sched_Periods.bits8 (fun HT_ HW_ => ?_)
             generalize wr.drew = w82 at HO_4 HO_6 BK777 HB hx785_0 hx786_0 hHeld ⊢
             refine pure_ (i := 0) (N := some 27) (v := ?_) (a' := ?_) #[true, false, false, false, false, false, false, false, false, false, false, false] rfl rfl (any_of HT_.out (by kernel_rfl)) (fun _ _ _ h => h) (Or.inl ⟨by rfl, ?_⟩) ?_ ?_
             rotate_left
             ·
              intro w'
              go_simp
              with_reducible rfl
             rotate_left
             ·
              simp only [Act.put, List.setIfInBounds_toArray, List.set_cons_zero, List.set_cons_succ, i64_w, i32_w]
              rfl
             refine pure_ (i := 1) (N := some 28) (v := ?_) (a' := ?_) #[true, true, false, false, false, false, false, false, false, false, false, false] rfl rfl (any_of HT_.out (by kernel_rfl)) (fun _ _ _ h => h) (Or.inl ⟨by rfl, ?_⟩) ?_ ?_
             rotate_left
             ·
              intro w'
              go_simp
              with_reducible rfl
             rotate_left
             ·
              simp only [Act.put, List.setIfInBounds_toArray, List.set_cons_zero, List.set_cons_succ, i64_w, i32_w]
              rfl
             refine pure_ (i := 2) (N := some 29) (v := ?_) (a' := ?_) #[true, true, true, false, false, false, false, false, false, false, false, false] rfl rfl (any_of HT_.out (by kernel_rfl)) (fun _ _ _ h => h) (Or.inl ⟨by rfl, ?_⟩) ?_ ?_
             rotate_left
             ·
              intro w'
              go_simp
              with_reducible rfl
             rotate_left
             ·
              simp only [Act.put, List.setIfInBounds_toArray, List.set_cons_zero, List.set_cons_succ, i64_w, i32_w]
              rfl
             refine pure_ (i := 4) (N := some 31) (v := ?_) (a' := ?_) #[true, true, true, false, true, false, false, false, false, false, false, false] rfl rfl (any_of HT_.out (by kernel_rfl)) (fun _ _ _ h => h) (Or.inl ⟨by rfl, ?_⟩) ?_ ?_
             rotate_left
             ·
              intro w'
              go_simp
              with_reducible rfl
             rotate_left
             ·
              simp only [Act.put, List.setIfInBounds_toArray, List.set_cons_zero, List.set_cons_succ, i64_w, i32_w]
              rfl
             refine pure_ (i := 5) (N := some 32) (v := ?_) (a' := ?_) #[true, true, true, false, true, true, false, false, false, false, false, false] rfl rfl (any_of HT_.out (by kernel_rfl)) (fun _ _ _ h => h) (Or.inl ⟨by rfl, ?_⟩) ?_ ?_
             rotate_left
             ·
              intro w'
              go_simp
              with_reducible rfl
             rotate_left
             ·
              simp only [Act.put, List.setIfInBounds_toArray, List.set_cons_zero, List.set_cons_succ, i64_w, i32_w]
              rfl
             refine pure_ (i := 6) (N := some 33) (v := ?_) (a' := ?_) #[true, true, true, false, true, true, true, false, false, false, false, false] rfl rfl (any_of HT_.out (by kernel_rfl)) (fun _ _ _ h => h) (Or.inl ⟨by rfl, ?_⟩) ?_ ?_
             rotate_left
             ·
              intro w'
              go_simp
              with_reducible rfl
             rotate_left
             ·
              simp only [Act.put, List.setIfInBounds_toArray, List.set_cons_zero, List.set_cons_succ, i64_w, i32_w]
              rfl
             refine pure_ (i := 7) (N := some 34) (v := ?_) (a' := ?_) #[true, true, true, false, true, true, true, true, false, false, false, false] rfl rfl (any_of HT_.out (by kernel_rfl)) (fun _ _ _ h => h) (Or.inl ⟨by rfl, ?_⟩) ?_ ?_
             rotate_left
             ·
              intro w'
              go_simp
              with_reducible rfl
             rotate_left
             ·
              simp only [Act.put, List.setIfInBounds_toArray, List.set_cons_zero, List.set_cons_succ, i64_w, i32_w]
              rfl
             refine take_ (i := 3) (N := some 30) (v := ?_) (a' := ?_) #[true, true, true, true, true, true, true, true, false, false, false, false] rfl rfl (take_ofW HT_.out HW_.out (by kernel_rfl)) (fun _ _ _ h => h) (Or.inl ⟨by rfl, ?_⟩) hHeld ?_ ?_
             rotate_left
             ·
              rintro w' ⟨s0, s1⟩
              go_simp
              with_reducible rfl
             rotate_left
             ·
              simp only [Act.put, List.setIfInBounds_toArray, List.set_cons_zero, List.set_cons_succ, i64_w, i32_w]
              rfl
             refine take_ (i := 8) (N := some 35) (v := ?_) (a' := ?_) #[true, true, true, true, true, true, true, true, true, false, false, false] rfl rfl (take_ofW HT_.out HW_.out (by kernel_rfl)) (fun _ _ _ h => h) (Or.inl ⟨by rfl, ?_⟩) hHeld ?_ ?_
             rotate_left
             ·
              rintro w' ⟨s0, s1⟩
              go_simp
              with_reducible rfl
             rotate_left
             ·
              simp only [Act.put, List.setIfInBounds_toArray, List.set_cons_zero, List.set_cons_succ, i64_w, i32_w]
              rfl
             refine pure_ (i := 9) (N := some 36) (v := ?_) (a' := ?_) #[true, true, true, true, true, true, true, true, true, true, false, false] rfl rfl (any_of HT_.out (by kernel_rfl)) (fun _ _ _ h => h) (Or.inl ⟨by rfl, ?_⟩) ?_ ?_
             rotate_left
             ·
              intro w'
              go_simp
              with_reducible rfl
             rotate_left
             ·
              simp only [Act.put, List.setIfInBounds_toArray, List.set_cons_zero, List.set_cons_succ, i64_w, i32_w]
              rfl
             refine one_ (i := 10) (N := some 8) #[true, true, true, true, true, true, true, true, true, true, true, false] rfl rfl (one_of HT_.out (by kernel_rfl)) (by decide) (fun K hK => ?_)
             refine box_step ?hg (N := 8) ?hd (cs := #[.int .i64 0, .int .i64 0, .int .i64 0, .int .i64 0, .int .i64 0]) (t := 81) ?hr ?_; (case hd => rfl); (case hg => rfl); (case hr => first | (go_simp; done) | (go_simp; rfl))
             intro gb787 hg w83 hbox hb
             have HS0_ := (hb.cell (World.block_lt_of_cell? _ _ (hHeld.1))).trans (hHeld.1)
             have HS1_ := (hb.cell (World.block_lt_of_cell? _ _ (hHeld.2))).trans (hHeld.2)
             have n0_ := Aside0.mk (Kd.R_below (by (with_reducible repeat (first | apply Kd.R_alloc | apply Kd.R_drewN | apply Kd.R_drew)); exact HO_4.out) hb)
             have n1_ := Aside0.mk (Kd.R_below (Kd.R_elderB (by (with_reducible repeat (first | apply Kd.R_alloc | apply Kd.R_drewN | apply Kd.R_drew)); exact HO_6.out) gb787 (Nat.le_of_eq hg.symm)) hb)
             have n2_ := Aside0.mk (blk_below (g := gb777) (o := .cells #[.int .i64 a0_0, .int .i64 a0_1, .int .i64 a0_2, .int .i64 a0_3, .int .i64 a0_4, .int .i64 a0_5, .int .i64 a0_6, .int .i64 a0_7, .int .i64 a0_8, .slice A0_9 l0_9.length c0_9] 66 (0, 0)) (by (with_reducible repeat (first | refine blk_drewN ?_ _ | refine blk_drew ?_ | refine blk_alloc ?_ _)); exact BK777.out) hb)
             have n3_ := Aside0.mk (below_step (by repeat (first | (with_reducible first | exact HB.out | apply below_alloc | apply pw_below_drewN | apply below_drew1 | refine below_set ?_ GE777.out) | exact HB.out)) hb)
             have n4_ := Aside0.mk (hbox)
             have n5_ := Aside0.mk ((by rw [hg]; exact (below_size (by repeat (first | (with_reducible first | exact HB.out | apply below_alloc | apply pw_below_drewN | apply below_drew1 | refine below_set ?_ GE777.out) | exact HB.out))) : w.heap.size ≤ gb787))
             have n6_ := Aside0.mk ((by rw [hg]; exact (below_size (by repeat (first | (with_reducible first | exact HB.out | apply below_alloc | apply pw_below_drewN | apply below_drew1 | refine below_set ?_ GE777.out) | exact HB.out))) : w.heap.size ≤ gb787))
             have n7_ := Aside0.mk ((by rw [hg]; exact Nat.ne_of_lt (blk_lt (g := gb777) (o := .cells #[.int .i64 a0_0, .int .i64 a0_1, .int .i64 a0_2, .int .i64 a0_3, .int .i64 a0_4, .int .i64 a0_5, .int .i64 a0_6, .int .i64 a0_7, .int .i64 a0_8, .slice A0_9 l0_9.length c0_9] 66 (0, 0)) (by (with_reducible repeat (first | refine blk_drewN ?_ _ | refine blk_drew ?_ | refine blk_alloc ?_ _)); exact BK777.out)) : gb777 ≠ gb787))
             have n8_ := Aside0.mk ((by rw [hg]; exact Nat.ne_of_gt (blk_lt (g := gb777) (o := .cells #[.int .i64 a0_0, .int .i64 a0_1, .int .i64 a0_2, .int .i64 a0_3, .int .i64 a0_4, .int .i64 a0_5, .int .i64 a0_6, .int .i64 a0_7, .int .i64 a0_8, .slice A0_9 l0_9.length c0_9] 66 (0, 0)) (by (with_reducible repeat (first | refine blk_drewN ?_ _ | refine blk_drew ?_ | refine blk_alloc ?_ _)); exact BK777.out)) : gb787 ≠ gb777))
             clear HO_4 HO_6 BK777 HB;have HO_4 := n0_;have HO_6 := n1_;have BK777 := n2_;have HB := n3_;have BK787 := n4_;have GW787 := n5_;have GE787 := n6_;have NB777_787 := n7_;have NB787_777 := n8_;clear n0_ n1_ n2_ n3_ n4_ n5_ n6_ n7_ n8_ hb hbox hg
             refine hK.out _ _ ⟨HS0_, HS1_⟩ (fun hHeld => ?_)
             clear hK K
             refine norm_ (a' := ?_) ?_ ?_
             rotate_left
             ·
              show Act.put _ (some 8) _ = _
              simp only [Act.put, List.setIfInBounds_toArray, List.set_cons_zero, List.set_cons_succ, i64_w, i32_w]
              rfl
             refine one_ (i := 11) (N := none) #[true, true, true, true, true, true, true, true, true, true, true, true] rfl rfl (one_of HT_.out (by kernel_rfl)) (by decide) (fun K hK => ?_)
             have hs84 : w83.cell? ⟨gb787, 0, none⟩ = some (.int .i64 0) := (blk_cell BK787.out 0).trans rfl
             have hfs84 := blk_frozen BK787.out 0;have hns84_0 := NB777_787.out;have hms84_0 := NB787_777.out
             have hs85 : w83.cell? ⟨gb787, 1, none⟩ = some (.int .i64 0) := (blk_cell BK787.out 1).trans rfl
             have hfs85 := blk_frozen BK787.out 1;have hns85_0 := NB777_787.out;have hms85_0 := NB787_777.out
             have hs86 : w83.cell? ⟨gb787, 2, none⟩ = some (.int .i64 0) := (blk_cell BK787.out 2).trans rfl
             have hfs86 := blk_frozen BK787.out 2;have hns86_0 := NB777_787.out;have hms86_0 := NB787_777.out
             have hs87 : w83.cell? ⟨gb787, 3, none⟩ = some (.int .i64 0) := (blk_cell BK787.out 3).trans rfl
             have hfs87 := blk_frozen BK787.out 3;have hns87_0 := NB777_787.out;have hms87_0 := NB787_777.out
             have hs88 : w83.cell? ⟨gb787, 4, none⟩ = some (.int .i64 0) := (blk_cell BK787.out 4).trans rfl
             have hfs88 := blk_frozen BK787.out 4;have hns88_0 := NB777_787.out;have hms88_0 := NB787_777.out
             refine skip_ (w1 := ?_) (by rfl) rfl ?_ ?_
             rotate_left
             ·
              go_simp
              rfl
             refine hK.out _ _ ⟨((cell_far (p := ⟨gb787, _, none⟩) (by first | exact Kd.own_blk (Kd.R_ne HO_4.out BK787.out (by decide)) | (rw [add_block]; exact Kd.own_blk (Kd.R_ne HO_4.out BK787.out (by decide))) | (show (Addr.add _ _).block ≠ _; rw [add_block]; exact Kd.own_blk (Kd.R_ne HO_4.out BK787.out (by decide))) | (dsimp only; exact Kd.own_blk (Kd.R_ne HO_4.out BK787.out (by decide)))) _).trans (((cell_far (p := ⟨gb787, _, none⟩) (by first | exact Kd.own_blk (Kd.R_ne HO_4.out BK787.out (by decide)) | (rw [add_block]; exact Kd.own_blk (Kd.R_ne HO_4.out BK787.out (by decide))) | (show (Addr.add _ _).block ≠ _; rw [add_block]; exact Kd.own_blk (Kd.R_ne HO_4.out BK787.out (by decide))) | (dsimp only; exact Kd.own_blk (Kd.R_ne HO_4.out BK787.out (by decide)))) _).trans (((cell_far (p := ⟨gb787, _, none⟩) (by first | exact Kd.own_blk (Kd.R_ne HO_4.out BK787.out (by decide)) | (rw [add_block]; exact Kd.own_blk (Kd.R_ne HO_4.out BK787.out (by decide))) | (show (Addr.add _ _).block ≠ _; rw [add_block]; exact Kd.own_blk (Kd.R_ne HO_4.out BK787.out (by decide))) | (dsimp only; exact Kd.own_blk (Kd.R_ne HO_4.out BK787.out (by decide)))) _).trans (((cell_far (p := ⟨gb787, _, none⟩) (by first | exact Kd.own_blk (Kd.R_ne HO_4.out BK787.out (by decide)) | (rw [add_block]; exact Kd.own_blk (Kd.R_ne HO_4.out BK787.out (by decide))) | (show (Addr.add _ _).block ≠ _; rw [add_block]; exact Kd.own_blk (Kd.R_ne HO_4.out BK787.out (by decide))) | (dsimp only; exact Kd.own_blk (Kd.R_ne HO_4.out BK787.out (by decide)))) _).trans (((cell_far (p := ⟨gb787, _, none⟩) (by first | exact Kd.own_blk (Kd.R_ne HO_4.out BK787.out (by decide)) | (rw [add_block]; exact Kd.own_blk (Kd.R_ne HO_4.out BK787.out (by decide))) | (show (Addr.add _ _).block ≠ _; rw [add_block]; exact Kd.own_blk (Kd.R_ne HO_4.out BK787.out (by decide))) | (dsimp only; exact Kd.own_blk (Kd.R_ne HO_4.out BK787.out (by decide)))) _).trans (hHeld.1)))))))))), ((cell_far (p := ⟨gb787, _, none⟩) (by first | exact Kd.own_blk (Kd.R_ne HO_4.out BK787.out (by decide)) | (rw [add_block]; exact Kd.own_blk (Kd.R_ne HO_4.out BK787.out (by decide))) | (show (Addr.add _ _).block ≠ _; rw [add_block]; exact Kd.own_blk (Kd.R_ne HO_4.out BK787.out (by decide))) | (dsimp only; exact Kd.own_blk (Kd.R_ne HO_4.out BK787.out (by decide)))) _).trans (((cell_far (p := ⟨gb787, _, none⟩) (by first | exact Kd.own_blk (Kd.R_ne HO_4.out BK787.out (by decide)) | (rw [add_block]; exact Kd.own_blk (Kd.R_ne HO_4.out BK787.out (by decide))) | (show (Addr.add _ _).block ≠ _; rw [add_block]; exact Kd.own_blk (Kd.R_ne HO_4.out BK787.out (by decide))) | (dsimp only; exact Kd.own_blk (Kd.R_ne HO_4.out BK787.out (by decide)))) _).trans (((cell_far (p := ⟨gb787, _, none⟩) (by first | exact Kd.own_blk (Kd.R_ne HO_4.out BK787.out (by decide)) | (rw [add_block]; exact Kd.own_blk (Kd.R_ne HO_4.out BK787.out (by decide))) | (show (Addr.add _ _).block ≠ _; rw [add_block]; exact Kd.own_blk (Kd.R_ne HO_4.out BK787.out (by decide))) | (dsimp only; exact Kd.own_blk (Kd.R_ne HO_4.out BK787.out (by decide)))) _).trans (((cell_far (p := ⟨gb787, _, none⟩) (by first | exact Kd.own_blk (Kd.R_ne HO_4.out BK787.out (by decide)) | (rw [add_block]; exact Kd.own_blk (Kd.R_ne HO_4.out BK787.out (by decide))) | (show (Addr.add _ _).block ≠ _; rw [add_block]; exact Kd.own_blk (Kd.R_ne HO_4.out BK787.out (by decide))) | (dsimp only; exact Kd.own_blk (Kd.R_ne HO_4.out BK787.out (by decide)))) _).trans (((cell_far (p := ⟨gb787, _, none⟩) (by first | exact Kd.own_blk (Kd.R_ne HO_4.out BK787.out (by decide)) | (rw [add_block]; exact Kd.own_blk (Kd.R_ne HO_4.out BK787.out (by decide))) | (show (Addr.add _ _).block ≠ _; rw [add_block]; exact Kd.own_blk (Kd.R_ne HO_4.out BK787.out (by decide))) | (dsimp only; exact Kd.own_blk (Kd.R_ne HO_4.out BK787.out (by decide)))) _).trans (hHeld.2))))))))))⟩ (fun hHeld => ?_)
             clear hK K
             refine done_ (done_of HT_.out (by kernel_rfl)) ?_
             have hnb89 := NB777_787.out;have hnc89 := NB787_777.out
             have hcz90_0 : w83.cell? ⟨gb777, 0, none⟩ = some (.int .i64 a0_0) := (blk_cell BK777.out 0).trans rfl
             have hcz90_1 : w83.cell? ⟨gb777, 1, none⟩ = some (.int .i64 a0_1) := (blk_cell BK777.out 1).trans rfl
             have hcz90_2 : w83.cell? ⟨gb777, 2, none⟩ = some (.int .i64 a0_2) := (blk_cell BK777.out 2).trans rfl
             have hcz90_3 : w83.cell? ⟨gb777, 3, none⟩ = some (.int .i64 a0_3) := (blk_cell BK777.out 3).trans rfl
             have hcz90_4 : w83.cell? ⟨gb777, 4, none⟩ = some (.int .i64 a0_4) := (blk_cell BK777.out 4).trans rfl
             have hcz90_5 : w83.cell? ⟨gb777, 5, none⟩ = some (.int .i64 a0_5) := (blk_cell BK777.out 5).trans rfl
             have hcz90_6 : w83.cell? ⟨gb777, 6, none⟩ = some (.int .i64 a0_6) := (blk_cell BK777.out 6).trans rfl
             have hcz90_7 : w83.cell? ⟨gb777, 7, none⟩ = some (.int .i64 a0_7) := (blk_cell BK777.out 7).trans rfl
             have hcz90_8 : w83.cell? ⟨gb777, 8, none⟩ = some (.int .i64 a0_8) := (blk_cell BK777.out 8).trans rfl
             have hcz90_9 : w83.cell? ⟨gb777, 9, none⟩ = some (.slice A0_9 l0_9.length c0_9) := (blk_cell BK777.out 9).trans rfl
             have hfz90_0 := blk_frozen BK777.out 0;have hfz90_1 := blk_frozen BK777.out 1;have hfz90_2 := blk_frozen BK777.out 2;have hfz90_3 := blk_frozen BK777.out 3;have hfz90_4 := blk_frozen BK777.out 4;have hfz90_5 := blk_frozen BK777.out 5;have hfz90_6 := blk_frozen BK777.out 6;have hfz90_7 := blk_frozen BK777.out 7;have hfz90_8 := blk_frozen BK777.out 8;have hfz90_9 := blk_frozen BK777.out 9
             have hcz91_0 : w83.cell? ⟨gb787, 0, none⟩ = some (.int .i64 0) := (blk_cell BK787.out 0).trans rfl
             have hcz91_1 : w83.cell? ⟨gb787, 1, none⟩ = some (.int .i64 0) := (blk_cell BK787.out 1).trans rfl
             have hcz91_2 : w83.cell? ⟨gb787, 2, none⟩ = some (.int .i64 0) := (blk_cell BK787.out 2).trans rfl
             have hcz91_3 : w83.cell? ⟨gb787, 3, none⟩ = some (.int .i64 0) := (blk_cell BK787.out 3).trans rfl
             have hcz91_4 : w83.cell? ⟨gb787, 4, none⟩ = some (.int .i64 0) := (blk_cell BK787.out 4).trans rfl
             have hfz91_0 := blk_frozen BK787.out 0;have hfz91_1 := blk_frozen BK787.out 1;have hfz91_2 := blk_frozen BK787.out 2;have hfz91_3 := blk_frozen BK787.out 3;have hfz91_4 := blk_frozen BK787.out 4
             try go_wp2_with (first | ((with_reducible refine gate_callee (f := 38) rfl ?_); refine goesL_ (some 44) rfl rfl Try.func38 (by kernel_rfl) rfl #[.agg #[.int .i64 a0_8, .slice A0_9 l0_9.length c0_9], .int .i64 (rd t778 x24_1), .int .i64 a0_6] rfl (by (try simp only [List.map_toArray, List.map_cons, List.map_nil]); first | done | rfl | (simp only [List.length_drop, List.length_take]; rfl)) ?_; (with_reducible refine (cal_Adjust.calls a0_8 _ _ l0_9 (rd t778 x24_1) a0_6 t788 t789 _ ?side1 ?side2 A19.out).mono ?_); (case side1 => exact Kd.C_below HR0_9.out (by repeat (first | (with_reducible first | exact HB.out | apply below_alloc | apply pw_below_drewN | apply below_drew1 | refine below_set ?_ GE777.out | refine below_set ?_ GE787.out) | exact HB.out))); (case side2 => exact HC0_9.out); rintro e w92 ⟨rfl, hb⟩; refine ⟨_, rfl, ?_⟩; have n0_ := Aside0.mk (Kd.R_below (by (with_reducible repeat (first | apply Kd.R_alloc | apply Kd.R_drewN | apply Kd.R_drew)); exact (Kd.R_mono (Kd.R_far (p := ⟨gb787, 4, none⟩) (Kd.R_far (p := ⟨gb787, 3, none⟩) (Kd.R_far (p := ⟨gb787, 2, none⟩) (Kd.R_far (p := ⟨gb787, 1, none⟩) (Kd.R_far (p := ⟨gb787, 0, none⟩) (Kd.R_types HO_4.out BK787.out (by decide)) (fun _ hk => hk.2) (.int .i64 (rd t778 x24_1))) (fun _ hk => hk.2) (.int .i64 (rd t778 (ji16)))) (fun _ hk => hk.2) (.int .i64 0)) (fun _ hk => hk.2) (.int .i64 0)) (fun _ hk => hk.2) (.int .i64 0)) (fun _ h_ => h_.1))) hb); have n1_ := Aside0.mk (Kd.R_below (by (with_reducible repeat (first | apply Kd.R_alloc | apply Kd.R_drewN | apply Kd.R_drew)); exact (Kd.R_mono (Kd.R_far (p := ⟨gb787, 4, none⟩) (Kd.R_far (p := ⟨gb787, 3, none⟩) (Kd.R_far (p := ⟨gb787, 2, none⟩) (Kd.R_far (p := ⟨gb787, 1, none⟩) (Kd.R_far (p := ⟨gb787, 0, none⟩) (Kd.R_mono HO_6.out (fun k_ hk => (⟨hk, hk.2⟩ : _ ∧ k_ ≠ gb787))) (fun _ hk => hk.2) (.int .i64 (rd t778 x24_1))) (fun _ hk => hk.2) (.int .i64 (rd t778 (ji16)))) (fun _ hk => hk.2) (.int .i64 0)) (fun _ hk => hk.2) (.int .i64 0)) (fun _ hk => hk.2) (.int .i64 0)) (fun _ h_ => h_.1))) hb); have n2_ := Aside0.mk (blk_below (g := gb777) (o := .cells #[.int .i64 a0_0, .int .i64 a0_1, .int .i64 a0_2, .int .i64 a0_3, .int .i64 a0_4, .int .i64 a0_5, .int .i64 a0_6, .int .i64 a0_7, .int .i64 a0_8, .slice A0_9 l0_9.length c0_9] 66 (0, 0)) (by (with_reducible repeat (first | refine blk_drewN ?_ _ | refine blk_drew ?_ | refine blk_alloc ?_ _)); refine blk_far ?_ NB777_787.out _; (with_reducible repeat (first | refine blk_drewN ?_ _ | refine blk_drew ?_ | refine blk_alloc ?_ _)); refine blk_far ?_ NB777_787.out _; (with_reducible repeat (first | refine blk_drewN ?_ _ | refine blk_drew ?_ | refine blk_alloc ?_ _)); refine blk_far ?_ NB777_787.out _; (with_reducible repeat (first | refine blk_drewN ?_ _ | refine blk_drew ?_ | refine blk_alloc ?_ _)); refine blk_far ?_ NB777_787.out _; (with_reducible repeat (first | refine blk_drewN ?_ _ | refine blk_drew ?_ | refine blk_alloc ?_ _)); refine blk_far ?_ NB777_787.out _; (with_reducible repeat (first | refine blk_drewN ?_ _ | refine blk_drew ?_ | refine blk_alloc ?_ _)); exact BK777.out) hb); have n3_ := Aside0.mk (blk_below (g := gb787) (o := .cells #[.int .i64 (rd t778 x24_1), .int .i64 (rd t778 (ji16)), .int .i64 0, .int .i64 0, .int .i64 0] 81 (0, 0)) (by (with_reducible repeat (first | refine blk_drewN ?_ _ | refine blk_drew ?_ | refine blk_alloc ?_ _)); refine blk_put (cs := #[.int .i64 (rd t778 x24_1), .int .i64 (rd t778 (ji16)), .int .i64 0, .int .i64 0, .int .i64 0]) ?_ 4 _ rfl; (with_reducible repeat (first | refine blk_drewN ?_ _ | refine blk_drew ?_ | refine blk_alloc ?_ _)); refine blk_put (cs := #[.int .i64 (rd t778 x24_1), .int .i64 (rd t778 (ji16)), .int .i64 0, .int .i64 0, .int .i64 0]) ?_ 3 _ rfl; (with_reducible repeat (first | refine blk_drewN ?_ _ | refine blk_drew ?_ | refine blk_alloc ?_ _)); refine blk_put (cs := #[.int .i64 (rd t778 x24_1), .int .i64 (rd t778 (ji16)), .int .i64 0, .int .i64 0, .int .i64 0]) ?_ 2 _ rfl; (with_reducible repeat (first | refine blk_drewN ?_ _ | refine blk_drew ?_ | refine blk_alloc ?_ _)); refine blk_put (cs := #[.int .i64 (rd t778 x24_1), .int .i64 0, .int .i64 0, .int .i64 0, .int .i64 0]) ?_ 1 _ rfl; (with_reducible repeat (first | refine blk_drewN ?_ _ | refine blk_drew ?_ | refine blk_alloc ?_ _)); refine blk_put (cs := #[.int .i64 0, .int .i64 0, .int .i64 0, .int .i64 0, .int .i64 0]) ?_ 0 _ rfl; (with_reducible repeat (first | refine blk_drewN ?_ _ | refine blk_drew ?_ | refine blk_alloc ?_ _)); exact BK787.out) hb); have n4_ := Aside0.mk (below_step (by repeat (first | (with_reducible first | exact HB.out | apply below_alloc | apply pw_below_drewN | apply below_drew1 | refine below_set ?_ GE777.out | refine below_set ?_ GE787.out) | exact HB.out)) hb); clear HO_4; clear HO_6; clear BK777; clear BK787; clear HB; have HO_4 := n0_; have HO_6 := n1_; have BK777 := n2_; have BK787 := n3_; have HB := n4_; clear n0_ n1_ n2_ n3_ n4_; (try clear hb); (try clear hb2); (try clear hk); (try clear hi); have hcz93_0 : w92.cell? ⟨gb787, 0, none⟩ = some (.int .i64 (rd t778 x24_1)) := (blk_cell BK787.out 0).trans rfl; have hcz93_1 : w92.cell? ⟨gb787, 1, none⟩ = some (.int .i64 (rd t778 (ji16))) := (blk_cell BK787.out 1).trans rfl; have hcz93_2 : w92.cell? ⟨gb787, 2, none⟩ = some (.int .i64 0) := (blk_cell BK787.out 2).trans rfl; have hcz93_3 : w92.cell? ⟨gb787, 3, none⟩ = some (.int .i64 0) := (blk_cell BK787.out 3).trans rfl; have hcz93_4 : w92.cell? ⟨gb787, 4, none⟩ = some (.int .i64 0) := (blk_cell BK787.out 4).trans rfl; have hfz93_0 := blk_frozen BK787.out 0; have hfz93_1 := blk_frozen BK787.out 1; have hfz93_2 := blk_frozen BK787.out 2; have hfz93_3 := blk_frozen BK787.out 3; have hfz93_4 := blk_frozen BK787.out 4; have hcz94_0 : w92.cell? ⟨gb777, 0, none⟩ = some (.int .i64 a0_0) := (blk_cell BK777.out 0).trans rfl; have hcz94_1 : w92.cell? ⟨gb777, 1, none⟩ = some (.int .i64 a0_1) := (blk_cell BK777.out 1).trans rfl; have hcz94_2 : w92.cell? ⟨gb777, 2, none⟩ = some (.int .i64 a0_2) := (blk_cell BK777.out 2).trans rfl; have hcz94_3 : w92.cell? ⟨gb777, 3, none⟩ = some (.int .i64 a0_3) := (blk_cell BK777.out 3).trans rfl; have hcz94_4 : w92.cell? ⟨gb777, 4, none⟩ = some (.int .i64 a0_4) := (blk_cell BK777.out 4).trans rfl; have hcz94_5 : w92.cell? ⟨gb777, 5, none⟩ = some (.int .i64 a0_5) := (blk_cell BK777.out 5).trans rfl; have hcz94_6 : w92.cell? ⟨gb777, 6, none⟩ = some (.int .i64 a0_6) := (blk_cell BK777.out 6).trans rfl; have hcz94_7 : w92.cell? ⟨gb777, 7, none⟩ = some (.int .i64 a0_7) := (blk_cell BK777.out 7).trans rfl; have hcz94_8 : w92.cell? ⟨gb777, 8, none⟩ = some (.int .i64 a0_8) := (blk_cell BK777.out 8).trans rfl; have hcz94_9 : w92.cell? ⟨gb777, 9, none⟩ = some (.slice A0_9 l0_9.length c0_9) := (blk_cell BK777.out 9).trans rfl; have hfz94_0 := blk_frozen BK777.out 0; have hfz94_1 := blk_frozen BK777.out 1; have hfz94_2 := blk_frozen BK777.out 2; have hfz94_3 := blk_frozen BK777.out 3; have hfz94_4 := blk_frozen BK777.out 4; have hfz94_5 := blk_frozen BK777.out 5; have hfz94_6 := blk_frozen BK777.out 6; have hfz94_7 := blk_frozen BK777.out 7; have hfz94_8 := blk_frozen BK777.out 8; have hfz94_9 := blk_frozen BK777.out 9) | ((with_reducible refine gate_callee (f := 38) rfl ?_); refine goesL_ (some 58) rfl rfl Try.func38 (by kernel_rfl) rfl #[.agg #[.int .i64 a0_8, .slice A0_9 l0_9.length c0_9], .int .i64 (rd t778 (ji16)), .int .i64 a0_6] rfl (by (try simp only [List.map_toArray, List.map_cons, List.map_nil]); first | done | (simp only [hji16]; rfl) | rfl | (simp only [List.length_drop, List.length_take]; rfl)) ?_; (with_reducible refine (cal_Adjust.calls a0_8 _ _ l0_9 (rd t778 (ji16)) a0_6 t790 t791 _ ?side1 ?side2 A21.out).mono ?_); (case side1 => exact Kd.C_below HR0_9.out (by repeat (first | (with_reducible first | exact HB.out | apply below_alloc | apply pw_below_drewN | apply below_drew1 | refine below_set ?_ GE777.out | refine below_set ?_ GE787.out) | exact HB.out))); (case side2 => exact HC0_9.out); rintro e w95 ⟨rfl, hb⟩; refine ⟨_, rfl, ?_⟩; have n0_ := Aside0.mk (Kd.R_below (by (with_reducible repeat (first | apply Kd.R_alloc | apply Kd.R_drewN | apply Kd.R_drew)); exact (Kd.R_mono (Kd.R_far (p := ⟨gb787, 2, none⟩) (Kd.R_types HO_4.out BK787.out (by decide)) (fun _ hk => hk.2) (.int .i64 t788)) (fun _ h_ => h_.1))) hb); have n1_ := Aside0.mk (Kd.R_below (by (with_reducible repeat (first | apply Kd.R_alloc | apply Kd.R_drewN | apply Kd.R_drew)); exact (Kd.R_mono (Kd.R_far (p := ⟨gb787, 2, none⟩) (Kd.R_mono HO_6.out (fun k_ hk => (⟨hk, hk.2⟩ : _ ∧ k_ ≠ gb787))) (fun _ hk => hk.2) (.int .i64 t788)) (fun _ h_ => h_.1))) hb); have n2_ := Aside0.mk (blk_below (g := gb777) (o := .cells #[.int .i64 a0_0, .int .i64 a0_1, .int .i64 a0_2, .int .i64 a0_3, .int .i64 a0_4, .int .i64 a0_5, .int .i64 a0_6, .int .i64 a0_7, .int .i64 a0_8, .slice A0_9 l0_9.length c0_9] 66 (0, 0)) (by (with_reducible repeat (first | refine blk_drewN ?_ _ | refine blk_drew ?_ | refine blk_alloc ?_ _)); refine blk_far ?_ NB777_787.out _; (with_reducible repeat (first | refine blk_drewN ?_ _ | refine blk_drew ?_ | refine blk_alloc ?_ _)); exact BK777.out) hb); have n3_ := Aside0.mk (blk_below (g := gb787) (o := .cells #[.int .i64 (rd t778 x24_1), .int .i64 (rd t778 (ji16)), .int .i64 t788, .int .i64 0, .int .i64 0] 81 (0, 0)) (by (with_reducible repeat (first | refine blk_drewN ?_ _ | refine blk_drew ?_ | refine blk_alloc ?_ _)); refine blk_put (cs := #[.int .i64 (rd t778 x24_1), .int .i64 (rd t778 (ji16)), .int .i64 0, .int .i64 0, .int .i64 0]) ?_ 2 _ rfl; (with_reducible repeat (first | refine blk_drewN ?_ _ | refine blk_drew ?_ | refine blk_alloc ?_ _)); exact BK787.out) hb); have n4_ := Aside0.mk (below_step (by repeat (first | (with_reducible first | exact HB.out | apply below_alloc | apply pw_below_drewN | apply below_drew1 | refine below_set ?_ GE777.out | refine below_set ?_ GE787.out) | exact HB.out)) hb); clear HO_4; clear HO_6; clear BK777; clear BK787; clear HB; have HO_4 := n0_; have HO_6 := n1_; have BK777 := n2_; have BK787 := n3_; have HB := n4_; clear n0_ n1_ n2_ n3_ n4_; (try clear hb); (try clear hb2); (try clear hk); (try clear hi); have hcz96_0 : w95.cell? ⟨gb787, 0, none⟩ = some (.int .i64 (rd t778 x24_1)) := (blk_cell BK787.out 0).trans rfl; have hcz96_1 : w95.cell? ⟨gb787, 1, none⟩ = some (.int .i64 (rd t778 (ji16))) := (blk_cell BK787.out 1).trans rfl; have hcz96_2 : w95.cell? ⟨gb787, 2, none⟩ = some (.int .i64 t788) := (blk_cell BK787.out 2).trans rfl; have hcz96_3 : w95.cell? ⟨gb787, 3, none⟩ = some (.int .i64 0) := (blk_cell BK787.out 3).trans rfl; have hcz96_4 : w95.cell? ⟨gb787, 4, none⟩ = some (.int .i64 0) := (blk_cell BK787.out 4).trans rfl; have hfz96_0 := blk_frozen BK787.out 0; have hfz96_1 := blk_frozen BK787.out 1; have hfz96_2 := blk_frozen BK787.out 2; have hfz96_3 := blk_frozen BK787.out 3; have hfz96_4 := blk_frozen BK787.out 4))
             go_ret2
             exact ⟨_, by first | rfl | (simp [errW_none, errW_some] <;> rfl) | (simp only [← hji4, ← hji16]; first | rfl | (simp [errW_none, errW_some] <;> rfl)) | (simp [*, errW_none, errW_some] <;> rfl), by first | exact Kd.R_nil _ _ _ _ _ | exact Kd.N_nil _ _ _ _ _ | exact Kd.V_nil _ _ _ _ _ | exact Kd.Q_nil _ _ _ _ _ | exact Kd.S_nil _ _ _ _ _, by repeat (first | (with_reducible first | exact HB.out | apply below_alloc | apply pw_below_drewN | apply below_drew1 | refine below_set ?_ GE777.out | refine below_set ?_ GE787.out) | exact HB.out)⟩
           ·
            rw [if_neg c20] at H
            have c20b0 : (t789 == 0) = false := beq_eq_false_iff_ne.mpr c20
            have c20b1 : (t789 != 0) = true := bne_iff_ne.mpr c20
            simp only [Option.some.injEq, Prod.mk.injEq] at H
            obtain ⟨rfl, rfl⟩ := H
            try go_wp2
            have n0_ := Aside0.mk (Kd.R_drew HO_4.out)
            have n1_ := Aside0.mk (Kd.R_drew HO_6.out)
            have n2_ := Aside0.mk (blk_drew BK777.out)
            have n3_ := Aside0.mk (below_drew1 HB.out)
            clear HO_4 HO_6 BK777 HB;have HO_4 := n0_;have HO_6 := n1_;have BK777 := n2_;have HB := n3_;clear n0_ n1_ n2_ n3_
            have p785 : 0 ≤ (x24_1 : Int) := of_decide_eq_true (by first | (with_reducible assumption) | assumption)
            have q785 : x24_1 < (t778.length : Int) := of_decide_eq_true (by first | (with_reducible assumption) | assumption)
            obtain ⟨ad785, e785, hx785_0⟩ := Kd.at_int (Kd.R_reads' HO_4.out).2.2 x24_1 p785 q785
            cases e785
            replace p785 := eq_true p785;replace q785 := eq_true q785
            have p786 : 0 ≤ ((ji16) : Int) := of_decide_eq_true (by first | (with_reducible assumption) | assumption)
            have q786 : (ji16) < (t778.length : Int) := of_decide_eq_true (by first | (with_reducible assumption) | assumption)
            obtain ⟨ad786, e786, hx786_0⟩ := Kd.at_int (Kd.R_reads' HO_4.out).2.2 (ji16) p786 q786
            obtain rfl : ad785 = ad786 := (by injection e786)
            replace p786 := eq_true p786;replace q786 := eq_true q786
            refine start_ (n := 12) (S := fun w' => w'.cell? (ad785.add (x24_1).toNat) = some (.int .i64 (rd t778 x24_1)) ∧ w'.cell? (ad785.add ((ji16)).toNat) = some (.int .i64 (rd t778 (ji16)))) (ds := []) #[false, false, false, false, false, false, false, false, false, false, false, false] (by kernel_rfl) rfl rfl ⟨hx785_0, hx786_0⟩ (fun hHeld => ?_); refine with_tabW sched_Periods.tab8 sched_Periods.bits8 (fun HT_ HW_ => ?_)
            generalize wr.drew = w97 at HO_4 HO_6 BK777 HB hx785_0 hx786_0 hHeld ⊢
            refine pure_ (i := 0) (N := some 27) (v := ?_) (a' := ?_) #[true, false, false, false, false, false, false, false, false, false, false, false] rfl rfl (any_of HT_.out (by kernel_rfl)) (fun _ _ _ h => h) (Or.inl ⟨by rfl, ?_⟩) ?_ ?_
            rotate_left
            ·
             intro w'
             go_simp
             with_reducible rfl
            rotate_left
            ·
             simp only [Act.put, List.setIfInBounds_toArray, List.set_cons_zero, List.set_cons_succ, i64_w, i32_w]
             rfl
            refine pure_ (i := 1) (N := some 28) (v := ?_) (a' := ?_) #[true, true, false, false, false, false, false, false, false, false, false, false] rfl rfl (any_of HT_.out (by kernel_rfl)) (fun _ _ _ h => h) (Or.inl ⟨by rfl, ?_⟩) ?_ ?_
            rotate_left
            ·
             intro w'
             go_simp
             with_reducible rfl
            rotate_left
            ·
             simp only [Act.put, List.setIfInBounds_toArray, List.set_cons_zero, List.set_cons_succ, i64_w, i32_w]
             rfl
            refine pure_ (i := 2) (N := some 29) (v := ?_) (a' := ?_) #[true, true, true, false, false, false, false, false, false, false, false, false] rfl rfl (any_of HT_.out (by kernel_rfl)) (fun _ _ _ h => h) (Or.inl ⟨by rfl, ?_⟩) ?_ ?_
            rotate_left
            ·
             intro w'
             go_simp
             with_reducible rfl
            rotate_left
            ·
             simp only [Act.put, List.setIfInBounds_toArray, List.set_cons_zero, List.set_cons_succ, i64_w, i32_w]
             rfl
            refine pure_ (i := 4) (N := some 31) (v := ?_) (a' := ?_) #[true, true, true, false, true, false, false, false, false, false, false, false] rfl rfl (any_of HT_.out (by kernel_rfl)) (fun _ _ _ h => h) (Or.inl ⟨by rfl, ?_⟩) ?_ ?_
            rotate_left
            ·
             intro w'
             go_simp
             with_reducible rfl
            rotate_left
            ·
             simp only [Act.put, List.setIfInBounds_toArray, List.set_cons_zero, List.set_cons_succ, i64_w, i32_w]
             rfl
            refine pure_ (i := 5) (N := some 32) (v := ?_) (a' := ?_) #[true, true, true, false, true, true, false, false, false, false, false, false] rfl rfl (any_of HT_.out (by kernel_rfl)) (fun _ _ _ h => h) (Or.inl ⟨by rfl, ?_⟩) ?_ ?_
            rotate_left
            ·
             intro w'
             go_simp
             with_reducible rfl
            rotate_left
            ·
             simp only [Act.put, List.setIfInBounds_toArray, List.set_cons_zero, List.set_cons_succ, i64_w, i32_w]
             rfl
            refine pure_ (i := 6) (N := some 33) (v := ?_) (a' := ?_) #[true, true, true, false, true, true, true, false, false, false, false, false] rfl rfl (any_of HT_.out (by kernel_rfl)) (fun _ _ _ h => h) (Or.inl ⟨by rfl, ?_⟩) ?_ ?_
            rotate_left
            ·
             intro w'
             go_simp
             with_reducible rfl
            rotate_left
            ·
             simp only [Act.put, List.setIfInBounds_toArray, List.set_cons_zero, List.set_cons_succ, i64_w, i32_w]
             rfl
            refine pure_ (i := 7) (N := some 34) (v := ?_) (a' := ?_) #[true, true, true, false, true, true, true, true, false, false, false, false] rfl rfl (any_of HT_.out (by kernel_rfl)) (fun _ _ _ h => h) (Or.inl ⟨by rfl, ?_⟩) ?_ ?_
            rotate_left
            ·
             intro w'
             go_simp
             with_reducible rfl
            rotate_left
            ·
             simp only [Act.put, List.setIfInBounds_toArray, List.set_cons_zero, List.set_cons_succ, i64_w, i32_w]
             rfl
            refine take_ (i := 3) (N := some 30) (v := ?_) (a' := ?_) #[true, true, true, true, true, true, true, true, false, false, false, false] rfl rfl (take_ofW HT_.out HW_.out (by kernel_rfl)) (fun _ _ _ h => h) (Or.inl ⟨by rfl, ?_⟩) hHeld ?_ ?_
            rotate_left
            ·
             rintro w' ⟨s0, s1⟩
             go_simp
             with_reducible rfl
            rotate_left
            ·
             simp only [Act.put, List.setIfInBounds_toArray, List.set_cons_zero, List.set_cons_succ, i64_w, i32_w]
             rfl
            refine take_ (i := 8) (N := some 35) (v := ?_) (a' := ?_) #[true, true, true, true, true, true, true, true, true, false, false, false] rfl rfl (take_ofW HT_.out HW_.out (by kernel_rfl)) (fun _ _ _ h => h) (Or.inl ⟨by rfl, ?_⟩) hHeld ?_ ?_
            rotate_left
            ·
             rintro w' ⟨s0, s1⟩
             go_simp
             with_reducible rfl
            rotate_left
            ·
             simp only [Act.put, List.setIfInBounds_toArray, List.set_cons_zero, List.set_cons_succ, i64_w, i32_w]
             rfl
            refine pure_ (i := 9) (N := some 36) (v := ?_) (a' := ?_) #[true, true, true, true, true, true, true, true, true, true, false, false] rfl rfl (any_of HT_.out (by kernel_rfl)) (fun _ _ _ h => h) (Or.inl ⟨by rfl, ?_⟩) ?_ ?_
            rotate_left
            ·
             intro w'
             go_simp
             with_reducible rfl
            rotate_left
            ·
             simp only [Act.put, List.setIfInBounds_toArray, List.set_cons_zero, List.set_cons_succ, i64_w, i32_w]
             rfl
            refine one_ (i := 10) (N := some 8) #[true, true, true, true, true, true, true, true, true, true, true, false] rfl rfl (one_of HT_.out (by kernel_rfl)) (by decide) (fun K hK => ?_)
            refine box_step ?hg (N := 8) ?hd (cs := #[.int .i64 0, .int .i64 0, .int .i64 0, .int .i64 0, .int .i64 0]) (t := 81) ?hr ?_; (case hd => rfl); (case hg => rfl); (case hr => first | (go_simp; done) | (go_simp; rfl))
            intro gb787 hg w98 hbox hb
            have HS0_ := (hb.cell (World.block_lt_of_cell? _ _ (hHeld.1))).trans (hHeld.1)
            have HS1_ := (hb.cell (World.block_lt_of_cell? _ _ (hHeld.2))).trans (hHeld.2)
            have n0_ := Aside0.mk (Kd.R_below (by (with_reducible repeat (first | apply Kd.R_alloc | apply Kd.R_drewN | apply Kd.R_drew)); exact HO_4.out) hb)
            have n1_ := Aside0.mk (Kd.R_below (Kd.R_elderB (by (with_reducible repeat (first | apply Kd.R_alloc | apply Kd.R_drewN | apply Kd.R_drew)); exact HO_6.out) gb787 (Nat.le_of_eq hg.symm)) hb)
            have n2_ := Aside0.mk (blk_below (g := gb777) (o := .cells #[.int .i64 a0_0, .int .i64 a0_1, .int .i64 a0_2, .int .i64 a0_3, .int .i64 a0_4, .int .i64 a0_5, .int .i64 a0_6, .int .i64 a0_7, .int .i64 a0_8, .slice A0_9 l0_9.length c0_9] 66 (0, 0)) (by (with_reducible repeat (first | refine blk_drewN ?_ _ | refine blk_drew ?_ | refine blk_alloc ?_ _)); exact BK777.out) hb)
            have n3_ := Aside0.mk (below_step (by repeat (first | (with_reducible first | exact HB.out | apply below_alloc | apply pw_below_drewN | apply below_drew1 | refine below_set ?_ GE777.out) | exact HB.out)) hb)
            have n4_ := Aside0.mk (hbox)
            have n5_ := Aside0.mk ((by rw [hg]; exact (below_size (by repeat (first | (with_reducible first | exact HB.out | apply below_alloc | apply pw_below_drewN | apply below_drew1 | refine below_set ?_ GE777.out) | exact HB.out))) : w.heap.size ≤ gb787))
            have n6_ := Aside0.mk ((by rw [hg]; exact (below_size (by repeat (first | (with_reducible first | exact HB.out | apply below_alloc | apply pw_below_drewN | apply below_drew1 | refine below_set ?_ GE777.out) | exact HB.out))) : w.heap.size ≤ gb787))
            have n7_ := Aside0.mk ((by rw [hg]; exact Nat.ne_of_lt (blk_lt (g := gb777) (o := .cells #[.int .i64 a0_0, .int .i64 a0_1, .int .i64 a0_2, .int .i64 a0_3, .int .i64 a0_4, .int .i64 a0_5, .int .i64 a0_6, .int .i64 a0_7, .int .i64 a0_8, .slice A0_9 l0_9.length c0_9] 66 (0, 0)) (by (with_reducible repeat (first | refine blk_drewN ?_ _ | refine blk_drew ?_ | refine blk_alloc ?_ _)); exact BK777.out)) : gb777 ≠ gb787))
            have n8_ := Aside0.mk ((by rw [hg]; exact Nat.ne_of_gt (blk_lt (g := gb777) (o := .cells #[.int .i64 a0_0, .int .i64 a0_1, .int .i64 a0_2, .int .i64 a0_3, .int .i64 a0_4, .int .i64 a0_5, .int .i64 a0_6, .int .i64 a0_7, .int .i64 a0_8, .slice A0_9 l0_9.length c0_9] 66 (0, 0)) (by (with_reducible repeat (first | refine blk_drewN ?_ _ | refine blk_drew ?_ | refine blk_alloc ?_ _)); exact BK777.out)) : gb787 ≠ gb777))
            clear HO_4 HO_6 BK777 HB;have HO_4 := n0_;have HO_6 := n1_;have BK777 := n2_;have HB := n3_;have BK787 := n4_;have GW787 := n5_;have GE787 := n6_;have NB777_787 := n7_;have NB787_777 := n8_;clear n0_ n1_ n2_ n3_ n4_ n5_ n6_ n7_ n8_ hb hbox hg
            refine hK.out _ _ ⟨HS0_, HS1_⟩ (fun hHeld => ?_)
            clear hK K
            refine norm_ (a' := ?_) ?_ ?_
            rotate_left
            ·
             show Act.put _ (some 8) _ = _
             simp only [Act.put, List.setIfInBounds_toArray, List.set_cons_zero, List.set_cons_succ, i64_w, i32_w]
             rfl
            refine one_ (i := 11) (N := none) #[true, true, true, true, true, true, true, true, true, true, true, true] rfl rfl (one_of HT_.out (by kernel_rfl)) (by decide) (fun K hK => ?_)
            have hs99 : w98.cell? ⟨gb787, 0, none⟩ = some (.int .i64 0) := (blk_cell BK787.out 0).trans rfl
            have hfs99 := blk_frozen BK787.out 0;have hns99_0 := NB777_787.out;have hms99_0 := NB787_777.out
            have hs100 : w98.cell? ⟨gb787, 1, none⟩ = some (.int .i64 0) := (blk_cell BK787.out 1).trans rfl
            have hfs100 := blk_frozen BK787.out 1;have hns100_0 := NB777_787.out;have hms100_0 := NB787_777.out
            have hs101 : w98.cell? ⟨gb787, 2, none⟩ = some (.int .i64 0) := (blk_cell BK787.out 2).trans rfl
            have hfs101 := blk_frozen BK787.out 2;have hns101_0 := NB777_787.out;have hms101_0 := NB787_777.out
            have hs102 : w98.cell? ⟨gb787, 3, none⟩ = some (.int .i64 0) := (blk_cell BK787.out 3).trans rfl
            have hfs102 := blk_frozen BK787.out 3;have hns102_0 := NB777_787.out;have hms102_0 := NB787_777.out
            have hs103 : w98.cell? ⟨gb787, 4, none⟩ = some (.int .i64 0) := (blk_cell BK787.out 4).trans rfl
            have hfs103 := blk_frozen BK787.out 4;have hns103_0 := NB777_787.out;have hms103_0 := NB787_777.out
            refine skip_ (w1 := ?_) (by rfl) rfl ?_ ?_
            rotate_left
            ·
             go_simp
             rfl
            refine hK.out _ _ ⟨((cell_far (p := ⟨gb787, _, none⟩) (by first | exact Kd.own_blk (Kd.R_ne HO_4.out BK787.out (by decide)) | (rw [add_block]; exact Kd.own_blk (Kd.R_ne HO_4.out BK787.out (by decide))) | (show (Addr.add _ _).block ≠ _; rw [add_block]; exact Kd.own_blk (Kd.R_ne HO_4.out BK787.out (by decide))) | (dsimp only; exact Kd.own_blk (Kd.R_ne HO_4.out BK787.out (by decide)))) _).trans (((cell_far (p := ⟨gb787, _, none⟩) (by first | exact Kd.own_blk (Kd.R_ne HO_4.out BK787.out (by decide)) | (rw [add_block]; exact Kd.own_blk (Kd.R_ne HO_4.out BK787.out (by decide))) | (show (Addr.add _ _).block ≠ _; rw [add_block]; exact Kd.own_blk (Kd.R_ne HO_4.out BK787.out (by decide))) | (dsimp only; exact Kd.own_blk (Kd.R_ne HO_4.out BK787.out (by decide)))) _).trans (((cell_far (p := ⟨gb787, _, none⟩) (by first | exact Kd.own_blk (Kd.R_ne HO_4.out BK787.out (by decide)) | (rw [add_block]; exact Kd.own_blk (Kd.R_ne HO_4.out BK787.out (by decide))) | (show (Addr.add _ _).block ≠ _; rw [add_block]; exact Kd.own_blk (Kd.R_ne HO_4.out BK787.out (by decide))) | (dsimp only; exact Kd.own_blk (Kd.R_ne HO_4.out BK787.out (by decide)))) _).trans (((cell_far (p := ⟨gb787, _, none⟩) (by first | exact Kd.own_blk (Kd.R_ne HO_4.out BK787.out (by decide)) | (rw [add_block]; exact Kd.own_blk (Kd.R_ne HO_4.out BK787.out (by decide))) | (show (Addr.add _ _).block ≠ _; rw [add_block]; exact Kd.own_blk (Kd.R_ne HO_4.out BK787.out (by decide))) | (dsimp only; exact Kd.own_blk (Kd.R_ne HO_4.out BK787.out (by decide)))) _).trans (((cell_far (p := ⟨gb787, _, none⟩) (by first | exact Kd.own_blk (Kd.R_ne HO_4.out BK787.out (by decide)) | (rw [add_block]; exact Kd.own_blk (Kd.R_ne HO_4.out BK787.out (by decide))) | (show (Addr.add _ _).block ≠ _; rw [add_block]; exact Kd.own_blk (Kd.R_ne HO_4.out BK787.out (by decide))) | (dsimp only; exact Kd.own_blk (Kd.R_ne HO_4.out BK787.out (by decide)))) _).trans (hHeld.1)))))))))), ((cell_far (p := ⟨gb787, _, none⟩) (by first | exact Kd.own_blk (Kd.R_ne HO_4.out BK787.out (by decide)) | (rw [add_block]; exact Kd.own_blk (Kd.R_ne HO_4.out BK787.out (by decide))) | (show (Addr.add _ _).block ≠ _; rw [add_block]; exact Kd.own_blk (Kd.R_ne HO_4.out BK787.out (by decide))) | (dsimp only; exact Kd.own_blk (Kd.R_ne HO_4.out BK787.out (by decide)))) _).trans (((cell_far (p := ⟨gb787, _, none⟩) (by first | exact Kd.own_blk (Kd.R_ne HO_4.out BK787.out (by decide)) | (rw [add_block]; exact Kd.own_blk (Kd.R_ne HO_4.out BK787.out (by decide))) | (show (Addr.add _ _).block ≠ _; rw [add_block]; exact Kd.own_blk (Kd.R_ne HO_4.out BK787.out (by decide))) | (dsimp only; exact Kd.own_blk (Kd.R_ne HO_4.out BK787.out (by decide)))) _).trans (((cell_far (p := ⟨gb787, _, none⟩) (by first | exact Kd.own_blk (Kd.R_ne HO_4.out BK787.out (by decide)) | (rw [add_block]; exact Kd.own_blk (Kd.R_ne HO_4.out BK787.out (by decide))) | (show (Addr.add _ _).block ≠ _; rw [add_block]; exact Kd.own_blk (Kd.R_ne HO_4.out BK787.out (by decide))) | (dsimp only; exact Kd.own_blk (Kd.R_ne HO_4.out BK787.out (by decide)))) _).trans (((cell_far (p := ⟨gb787, _, none⟩) (by first | exact Kd.own_blk (Kd.R_ne HO_4.out BK787.out (by decide)) | (rw [add_block]; exact Kd.own_blk (Kd.R_ne HO_4.out BK787.out (by decide))) | (show (Addr.add _ _).block ≠ _; rw [add_block]; exact Kd.own_blk (Kd.R_ne HO_4.out BK787.out (by decide))) | (dsimp only; exact Kd.own_blk (Kd.R_ne HO_4.out BK787.out (by decide)))) _).trans (((cell_far (p := ⟨gb787, _, none⟩) (by first | exact Kd.own_blk (Kd.R_ne HO_4.out BK787.out (by decide)) | (rw [add_block]; exact Kd.own_blk (Kd.R_ne HO_4.out BK787.out (by decide))) | (show (Addr.add _ _).block ≠ _; rw [add_block]; exact Kd.own_blk (Kd.R_ne HO_4.out BK787.out (by decide))) | (dsimp only; exact Kd.own_blk (Kd.R_ne HO_4.out BK787.out (by decide)))) _).trans (hHeld.2))))))))))⟩ (fun hHeld => ?_)
            clear hK K
            refine done_ (done_of HT_.out (by kernel_rfl)) ?_
            have hnb104 := NB777_787.out;have hnc104 := NB787_777.out
            have hcz105_0 : w98.cell? ⟨gb777, 0, none⟩ = some (.int .i64 a0_0) := (blk_cell BK777.out 0).trans rfl
            have hcz105_1 : w98.cell? ⟨gb777, 1, none⟩ = some (.int .i64 a0_1) := (blk_cell BK777.out 1).trans rfl
            have hcz105_2 : w98.cell? ⟨gb777, 2, none⟩ = some (.int .i64 a0_2) := (blk_cell BK777.out 2).trans rfl
            have hcz105_3 : w98.cell? ⟨gb777, 3, none⟩ = some (.int .i64 a0_3) := (blk_cell BK777.out 3).trans rfl
            have hcz105_4 : w98.cell? ⟨gb777, 4, none⟩ = some (.int .i64 a0_4) := (blk_cell BK777.out 4).trans rfl
            have hcz105_5 : w98.cell? ⟨gb777, 5, none⟩ = some (.int .i64 a0_5) := (blk_cell BK777.out 5).trans rfl
            have hcz105_6 : w98.cell? ⟨gb777, 6, none⟩ = some (.int .i64 a0_6) := (blk_cell BK777.out 6).trans rfl
            have hcz105_7 : w98.cell? ⟨gb777, 7, none⟩ = some (.int .i64 a0_7) := (blk_cell BK777.out 7).trans rfl
            have hcz105_8 : w98.cell? ⟨gb777, 8, none⟩ = some (.int .i64 a0_8) := (blk_cell BK777.out 8).trans rfl
            have hcz105_9 : w98.cell? ⟨gb777, 9, none⟩ = some (.slice A0_9 l0_9.length c0_9) := (blk_cell BK777.out 9).trans rfl
            have hfz105_0 := blk_frozen BK777.out 0;have hfz105_1 := blk_frozen BK777.out 1;have hfz105_2 := blk_frozen BK777.out 2;have hfz105_3 := blk_frozen BK777.out 3;have hfz105_4 := blk_frozen BK777.out 4;have hfz105_5 := blk_frozen BK777.out 5;have hfz105_6 := blk_frozen BK777.out 6;have hfz105_7 := blk_frozen BK777.out 7;have hfz105_8 := blk_frozen BK777.out 8;have hfz105_9 := blk_frozen BK777.out 9
            have hcz106_0 : w98.cell? ⟨gb787, 0, none⟩ = some (.int .i64 0) := (blk_cell BK787.out 0).trans rfl
            have hcz106_1 : w98.cell? ⟨gb787, 1, none⟩ = some (.int .i64 0) := (blk_cell BK787.out 1).trans rfl
            have hcz106_2 : w98.cell? ⟨gb787, 2, none⟩ = some (.int .i64 0) := (blk_cell BK787.out 2).trans rfl
            have hcz106_3 : w98.cell? ⟨gb787, 3, none⟩ = some (.int .i64 0) := (blk_cell BK787.out 3).trans rfl
            have hcz106_4 : w98.cell? ⟨gb787, 4, none⟩ = some (.int .i64 0) := (blk_cell BK787.out 4).trans rfl
            have hfz106_0 := blk_frozen BK787.out 0;have hfz106_1 := blk_frozen BK787.out 1;have hfz106_2 := blk_frozen BK787.out 2;have hfz106_3 := blk_frozen BK787.out 3;have hfz106_4 := blk_frozen BK787.out 4
            try go_wp2_with (first | ((with_reducible refine gate_callee (f := 38) rfl ?_); refine goesL_ (some 44) rfl rfl Try.func38 (by kernel_rfl) rfl #[.agg #[.int .i64 a0_8, .slice A0_9 l0_9.length c0_9], .int .i64 (rd t778 x24_1), .int .i64 a0_6] rfl (by (try simp only [List.map_toArray, List.map_cons, List.map_nil]); first | done | rfl | (simp only [List.length_drop, List.length_take]; rfl)) ?_; (with_reducible refine (cal_Adjust.calls a0_8 _ _ l0_9 (rd t778 x24_1) a0_6 t788 t789 _ ?side1 ?side2 A19.out).mono ?_); (case side1 => exact Kd.C_below HR0_9.out (by repeat (first | (with_reducible first | exact HB.out | apply below_alloc | apply pw_below_drewN | apply below_drew1 | refine below_set ?_ GE777.out | refine below_set ?_ GE787.out) | exact HB.out))); (case side2 => exact HC0_9.out); rintro e w107 ⟨rfl, hb⟩; refine ⟨_, rfl, ?_⟩; have n0_ := Aside0.mk (Kd.R_below (by (with_reducible repeat (first | apply Kd.R_alloc | apply Kd.R_drewN | apply Kd.R_drew)); exact (Kd.R_mono (Kd.R_far (p := ⟨gb787, 4, none⟩) (Kd.R_far (p := ⟨gb787, 3, none⟩) (Kd.R_far (p := ⟨gb787, 2, none⟩) (Kd.R_far (p := ⟨gb787, 1, none⟩) (Kd.R_far (p := ⟨gb787, 0, none⟩) (Kd.R_types HO_4.out BK787.out (by decide)) (fun _ hk => hk.2) (.int .i64 (rd t778 x24_1))) (fun _ hk => hk.2) (.int .i64 (rd t778 (ji16)))) (fun _ hk => hk.2) (.int .i64 0)) (fun _ hk => hk.2) (.int .i64 0)) (fun _ hk => hk.2) (.int .i64 0)) (fun _ h_ => h_.1))) hb); have n1_ := Aside0.mk (Kd.R_below (by (with_reducible repeat (first | apply Kd.R_alloc | apply Kd.R_drewN | apply Kd.R_drew)); exact (Kd.R_mono (Kd.R_far (p := ⟨gb787, 4, none⟩) (Kd.R_far (p := ⟨gb787, 3, none⟩) (Kd.R_far (p := ⟨gb787, 2, none⟩) (Kd.R_far (p := ⟨gb787, 1, none⟩) (Kd.R_far (p := ⟨gb787, 0, none⟩) (Kd.R_mono HO_6.out (fun k_ hk => (⟨hk, hk.2⟩ : _ ∧ k_ ≠ gb787))) (fun _ hk => hk.2) (.int .i64 (rd t778 x24_1))) (fun _ hk => hk.2) (.int .i64 (rd t778 (ji16)))) (fun _ hk => hk.2) (.int .i64 0)) (fun _ hk => hk.2) (.int .i64 0)) (fun _ hk => hk.2) (.int .i64 0)) (fun _ h_ => h_.1))) hb); have n2_ := Aside0.mk (blk_below (g := gb777) (o := .cells #[.int .i64 a0_0, .int .i64 a0_1, .int .i64 a0_2, .int .i64 a0_3, .int .i64 a0_4, .int .i64 a0_5, .int .i64 a0_6, .int .i64 a0_7, .int .i64 a0_8, .slice A0_9 l0_9.length c0_9] 66 (0, 0)) (by (with_reducible repeat (first | refine blk_drewN ?_ _ | refine blk_drew ?_ | refine blk_alloc ?_ _)); refine blk_far ?_ NB777_787.out _; (with_reducible repeat (first | refine blk_drewN ?_ _ | refine blk_drew ?_ | refine blk_alloc ?_ _)); refine blk_far ?_ NB777_787.out _; (with_reducible repeat (first | refine blk_drewN ?_ _ | refine blk_drew ?_ | refine blk_alloc ?_ _)); refine blk_far ?_ NB777_787.out _; (with_reducible repeat (first | refine blk_drewN ?_ _ | refine blk_drew ?_ | refine blk_alloc ?_ _)); refine blk_far ?_ NB777_787.out _; (with_reducible repeat (first | refine blk_drewN ?_ _ | refine blk_drew ?_ | refine blk_alloc ?_ _)); refine blk_far ?_ NB777_787.out _; (with_reducible repeat (first | refine blk_drewN ?_ _ | refine blk_drew ?_ | refine blk_alloc ?_ _)); exact BK777.out) hb); have n3_ := Aside0.mk (blk_below (g := gb787) (o := .cells #[.int .i64 (rd t778 x24_1), .int .i64 (rd t778 (ji16)), .int .i64 0, .int .i64 0, .int .i64 0] 81 (0, 0)) (by (with_reducible repeat (first | refine blk_drewN ?_ _ | refine blk_drew ?_ | refine blk_alloc ?_ _)); refine blk_put (cs := #[.int .i64 (rd t778 x24_1), .int .i64 (rd t778 (ji16)), .int .i64 0, .int .i64 0, .int .i64 0]) ?_ 4 _ rfl; (with_reducible repeat (first | refine blk_drewN ?_ _ | refine blk_drew ?_ | refine blk_alloc ?_ _)); refine blk_put (cs := #[.int .i64 (rd t778 x24_1), .int .i64 (rd t778 (ji16)), .int .i64 0, .int .i64 0, .int .i64 0]) ?_ 3 _ rfl; (with_reducible repeat (first | refine blk_drewN ?_ _ | refine blk_drew ?_ | refine blk_alloc ?_ _)); refine blk_put (cs := #[.int .i64 (rd t778 x24_1), .int .i64 (rd t778 (ji16)), .int .i64 0, .int .i64 0, .int .i64 0]) ?_ 2 _ rfl; (with_reducible repeat (first | refine blk_drewN ?_ _ | refine blk_drew ?_ | refine blk_alloc ?_ _)); refine blk_put (cs := #[.int .i64 (rd t778 x24_1), .int .i64 0, .int .i64 0, .int .i64 0, .int .i64 0]) ?_ 1 _ rfl; (with_reducible repeat (first | refine blk_drewN ?_ _ | refine blk_drew ?_ | refine blk_alloc ?_ _)); refine blk_put (cs := #[.int .i64 0, .int .i64 0, .int .i64 0, .int .i64 0, .int .i64 0]) ?_ 0 _ rfl; (with_reducible repeat (first | refine blk_drewN ?_ _ | refine blk_drew ?_ | refine blk_alloc ?_ _)); exact BK787.out) hb); have n4_ := Aside0.mk (below_step (by repeat (first | (with_reducible first | exact HB.out | apply below_alloc | apply pw_below_drewN | apply below_drew1 | refine below_set ?_ GE777.out | refine below_set ?_ GE787.out) | exact HB.out)) hb); clear HO_4; clear HO_6; clear BK777; clear BK787; clear HB; have HO_4 := n0_; have HO_6 := n1_; have BK777 := n2_; have BK787 := n3_; have HB := n4_; clear n0_ n1_ n2_ n3_ n4_; (try clear hb); (try clear hb2); (try clear hk); (try clear hi); have hcz108_0 : w107.cell? ⟨gb787, 0, none⟩ = some (.int .i64 (rd t778 x24_1)) := (blk_cell BK787.out 0).trans rfl; have hcz108_1 : w107.cell? ⟨gb787, 1, none⟩ = some (.int .i64 (rd t778 (ji16))) := (blk_cell BK787.out 1).trans rfl; have hcz108_2 : w107.cell? ⟨gb787, 2, none⟩ = some (.int .i64 0) := (blk_cell BK787.out 2).trans rfl; have hcz108_3 : w107.cell? ⟨gb787, 3, none⟩ = some (.int .i64 0) := (blk_cell BK787.out 3).trans rfl; have hcz108_4 : w107.cell? ⟨gb787, 4, none⟩ = some (.int .i64 0) := (blk_cell BK787.out 4).trans rfl; have hfz108_0 := blk_frozen BK787.out 0; have hfz108_1 := blk_frozen BK787.out 1; have hfz108_2 := blk_frozen BK787.out 2; have hfz108_3 := blk_frozen BK787.out 3; have hfz108_4 := blk_frozen BK787.out 4))
            go_ret2
            exact ⟨_, by first | rfl | (simp [errW_none, errW_some] <;> rfl) | (simp only [← hji4, ← hji16]; first | rfl | (simp [errW_none, errW_some] <;> rfl)) | (simp [*, errW_none, errW_some] <;> rfl), by first | exact Kd.R_nil _ _ _ _ _ | exact Kd.N_nil _ _ _ _ _ | exact Kd.V_nil _ _ _ _ _ | exact Kd.Q_nil _ _ _ _ _ | exact Kd.S_nil _ _ _ _ _, by repeat (first | (with_reducible first | exact HB.out | apply below_alloc | apply pw_below_drewN | apply below_drew1 | refine below_set ?_ GE777.out | refine below_set ?_ GE787.out) | exact HB.out)⟩
          ·
           rw [if_neg c18] at H
           exact absurd H (by simp)
         ·
          rw [if_neg c17] at H
          exact absurd H (by simp)
        ·
         rw [if_neg c15] at H
         exact absurd H (by simp)
       ·
        rw [if_neg c14] at H
        exact absurd H (by simp)
      ·
       rw [if_neg c13] at H
       have c13b0 : decide (x24_1 < ji4) = false := decide_eq_false c13
       clear c13
       simp only [Option.some.injEq, Prod.mk.injEq] at H
       obtain ⟨rfl, rfl⟩ := H
       go_wp2
       go_ret2
       exact ⟨_, by first | rfl | (simp [errW_none, errW_some] <;> rfl) | (simp only [← hji4]; first | rfl | (simp [errW_none, errW_some] <;> rfl)) | (simp [*, errW_none, errW_some] <;> rfl), by (with_reducible repeat (first | apply Kd.R_alloc | apply Kd.R_drewN | apply Kd.R_drew)); exact HO_6.out, by repeat (first | (with_reducible first | exact HB.out | apply below_alloc | apply pw_below_drewN | apply below_drew1 | refine below_set ?_ GE777.out) | exact HB.out)⟩
   ·
    rw [if_neg c6] at H
    exact absurd H (by simp)
  ·
   rw [if_neg c5] at H
   exact absurd H (by simp)
 ·
  rw [if_neg c3] at H
  have c3b0 : (t781 == 0) = false := beq_eq_false_iff_ne.mpr c3
  have c3b1 : (t781 != 0) = true := bne_iff_ne.mpr c3
  simp only [Option.some.injEq, Prod.mk.injEq] at H
  obtain ⟨rfl, rfl⟩ := H
  go_enter Try.func54, Try.ntmps54
  go_wp2_with (first | ((with_reducible refine gate_dst (N := 1) rfl ?_); refine box_event ?hg (N := 1) ?hd (cs := #[.int .i64 a0_0, .int .i64 a0_1, .int .i64 a0_2, .int .i64 a0_3, .int .i64 a0_4, .int .i64 a0_5, .int .i64 a0_6, .int .i64 a0_7, .int .i64 a0_8, .slice A0_9 l0_9.length c0_9]) (t := 66) ?hr ?_; (case hd => rfl); (case hg => rfl); (case hr => first | (go_simp; done) | (go_simp; rfl)); intro gb777 hg w109 hbox hb; have n0_ := Aside0.mk (below_step (by repeat (first | (with_reducible first | exact HB.out | apply below_alloc | apply pw_below_drewN | apply below_drew1) | exact HB.out)) hb); have n1_ := Aside0.mk (hbox); have n2_ := Aside0.mk ((by rw [hg]; exact (below_size (by repeat (first | (with_reducible first | exact HB.out | apply below_alloc | apply pw_below_drewN | apply below_drew1) | exact HB.out))) : w.heap.size ≤ gb777)); have n3_ := Aside0.mk ((by rw [hg]; exact (below_size (by repeat (first | (with_reducible first | exact HB.out | apply below_alloc | apply pw_below_drewN | apply below_drew1) | exact HB.out))) : w.heap.size ≤ gb777)); clear HB; have HB := n0_; have BK777 := n1_; have GW777 := n2_; have GE777 := n3_; clear n0_ n1_ n2_ n3_; clear hb hbox hg; have hcz110_0 : w109.cell? ⟨gb777, 0, none⟩ = some (.int .i64 a0_0) := (blk_cell BK777.out 0).trans rfl; have hcz110_1 : w109.cell? ⟨gb777, 1, none⟩ = some (.int .i64 a0_1) := (blk_cell BK777.out 1).trans rfl; have hcz110_2 : w109.cell? ⟨gb777, 2, none⟩ = some (.int .i64 a0_2) := (blk_cell BK777.out 2).trans rfl; have hcz110_3 : w109.cell? ⟨gb777, 3, none⟩ = some (.int .i64 a0_3) := (blk_cell BK777.out 3).trans rfl; have hcz110_4 : w109.cell? ⟨gb777, 4, none⟩ = some (.int .i64 a0_4) := (blk_cell BK777.out 4).trans rfl; have hcz110_5 : w109.cell? ⟨gb777, 5, none⟩ = some (.int .i64 a0_5) := (blk_cell BK777.out 5).trans rfl; have hcz110_6 : w109.cell? ⟨gb777, 6, none⟩ = some (.int .i64 a0_6) := (blk_cell BK777.out 6).trans rfl; have hcz110_7 : w109.cell? ⟨gb777, 7, none⟩ = some (.int .i64 a0_7) := (blk_cell BK777.out 7).trans rfl; have hcz110_8 : w109.cell? ⟨gb777, 8, none⟩ = some (.int .i64 a0_8) := (blk_cell BK777.out 8).trans rfl; have hcz110_9 : w109.cell? ⟨gb777, 9, none⟩ = some (.slice A0_9 l0_9.length c0_9) := (blk_cell BK777.out 9).trans rfl; have hfz110_0 := blk_frozen BK777.out 0; have hfz110_1 := blk_frozen BK777.out 1; have hfz110_2 := blk_frozen BK777.out 2; have hfz110_3 := blk_frozen BK777.out 3; have hfz110_4 := blk_frozen BK777.out 4; have hfz110_5 := blk_frozen BK777.out 5; have hfz110_6 := blk_frozen BK777.out 6; have hfz110_7 := blk_frozen BK777.out 7; have hfz110_8 := blk_frozen BK777.out 8; have hfz110_9 := blk_frozen BK777.out 9) | ((with_reducible refine gate_callee (f := 50) rfl ?_); refine goesL_ (some 11) rfl rfl Try.func50 (by kernel_rfl) rfl #[.agg #[.int .i64 a0_0, .int .i64 a0_1, .int .i64 a0_2, .int .i64 a0_3, .int .i64 a0_4, .int .i64 a0_5, .int .i64 a0_6, .int .i64 a0_7, .int .i64 a0_8, .slice A0_9 l0_9.length c0_9]] rfl (by (try simp only [List.map_toArray, List.map_cons, List.map_nil]); first | done | rfl | (simp only [List.length_drop, List.length_take]; rfl)) ?_; (with_reducible refine (sched_Dates.calls k a0_0 a0_1 a0_2 a0_3 a0_4 a0_5 a0_6 a0_7 a0_8 _ _ l0_9 t778 t781 _ ?side1 ?side2 A2.out).mono ?_); (case side1 => repeat (first | exact (Kd.C_below HR0_9.out HB.out) | (with_reducible refine Kd.C_alloc ?_ _) | (with_reducible refine Kd.C_drewN ?_ _) | (with_reducible refine Kd.C_drew ?_))); (case side2 => exact HC0_9.out); rintro e w111 ⟨v779, rfl, ho0, hb⟩; refine ⟨_, rfl, ?_⟩; have n0_ := Aside0.mk (Kd.R_lower ho0 (below_size (by repeat (first | (with_reducible first | exact HB.out | apply below_alloc | apply pw_below_drewN | apply below_drew1 | refine below_set ?_ GE777.out) | exact HB.out)))); have n1_ := Aside0.mk (blk_below (g := gb777) (o := .cells #[.int .i64 a0_0, .int .i64 a0_1, .int .i64 a0_2, .int .i64 a0_3, .int .i64 a0_4, .int .i64 a0_5, .int .i64 a0_6, .int .i64 a0_7, .int .i64 a0_8, .slice A0_9 l0_9.length c0_9] 66 (0, 0)) (by (with_reducible repeat (first | refine blk_drewN ?_ _ | refine blk_drew ?_ | refine blk_alloc ?_ _)); exact BK777.out) hb); have n2_ := Aside0.mk (below_step (by repeat (first | (with_reducible first | exact HB.out | apply below_alloc | apply pw_below_drewN | apply below_drew1 | refine below_set ?_ GE777.out) | exact HB.out)) hb); clear BK777; clear HB; have HO780 := n0_; have BK777 := n1_; have HB := n2_; clear n0_ n1_ n2_; (try clear hb); (try clear hb2); (try clear hk); (try clear hi); (try clear ho0)))
  go_ret2
  exact ⟨_, by first | rfl | (simp [errW_none, errW_some] <;> rfl) | (simp [*, errW_none, errW_some] <;> rfl), by first | exact Kd.R_nil _ _ _ _ _ | exact Kd.N_nil _ _ _ _ _ | exact Kd.V_nil _ _ _ _ _ | exact Kd.Q_nil _ _ _ _ _ | exact Kd.S_nil _ _ _ _ _, by repeat (first | (with_reducible first | exact HB.out | apply below_alloc | apply pw_below_drewN | apply below_drew1 | refine below_set ?_ GE777.out) | exact HB.out)⟩
end Go.Proofs.Ytoncignjcgjhhaa.Q
