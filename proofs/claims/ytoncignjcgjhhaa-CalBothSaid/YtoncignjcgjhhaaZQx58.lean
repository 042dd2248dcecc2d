/- Contracts of functions of the seat's program: each Go function's Lean function and its walk, written by a program of this session over the kit's print. Not trusted: Lean checks it. -/
import Derived.Test.YtoncignjcgjhhaaZGA
import Derived.Test.YtoncignjcgjhhaaZQx9
import Derived.Test.YtoncignjcgjhhaaZQx57
import Derived.Test.YtoncignjcgjhhaaZMake0
import Derived.Test.YtoncignjcgjhhaaZV
set_option linter.unusedVariables false
set_option linter.unusedSimpArgs false
namespace Go.Proofs.Ytoncignjcgjhhaa.Q
open Go.RowKit Go.Proofs.YtoncignjcgjhhaaW.PrintWords Go.Proofs.YtoncignjcgjhhaaW.PrintLast Go.Proofs.YtoncignjcgjhhaaW.PrintMore
attribute [local go_sem] max2_int min2_int max_two min_two max_three min_three max_four min_four   -- for this text's walks alone
set_option linter.unusedVariables false
set_option linter.unusedSimpArgs false

/-! ### cal_Join: function 46 -/
def cal_Join.j0 : Nat → Bool → Int → List (S63) → Int → List (S63) → Option (Int × (List (S63)) × Int)
  | 0, _, _, _, _, _ => none
  | k + 1, x43, x604000, x604001, x605000, x605001 => if x43 = true then (some (0, ([] : List (S63)), 60)) else (if 0 ≤ (wrap64 ((x604001.length : Int) + (x605001.length : Int))) then (if (wrap64 ((x604001.length : Int) + (x605001.length : Int)) : Int).toNat ≤ 3909374676536 then ((some (List.replicate 0 z63 : List (S63))).bind fun y613 => (if y613.length + x604001.length < 1954687338268 then ((some (y613 ++ x604001 : List (S63))).bind fun y616 => (if y616.length + x605001.length < 1954687338268 then ((some (y616 ++ x605001 : List (S63))).bind fun y619 => ((cal_Check.f (Go.bits .or .i64 x604000 x605000) y619).bind fun bt622 => (if bt622.1 = 0 then (some (Go.bits .or .i64 x604000 x605000, y619, 0)) else (some (0, ([] : List (S63)), bt622.1))))) else (none))) else (none))) else (none)) else (none))
def cal_Join.f (k : Nat) (a0_0 : Int) (l0_1 : List (S63)) (a1_0 : Int) (l1_1 : List (S63)) : Option (Int × (List (S63)) × Int) := (cal_Check.f a0_0 l0_1).bind fun bt606 => (if bt606.1 = 0 then ((cal_Check.f a1_0 l1_1).bind fun bt608 => (if bt608.1 = 0 then (if a0_0 = a1_0 then (cal_Join.j0 k false a0_0 l0_1 a1_0 l1_1) else ((cal_moves.f k a0_0 l0_1).bind fun t610 => (if t610 = true then (cal_Join.j0 k true a0_0 l0_1 a1_0 l1_1) else ((cal_moves.f k a1_0 l1_1).bind fun t611 => (cal_Join.j0 k t611 a0_0 l0_1 a1_0 l1_1))))) else (some (0, ([] : List (S63)), bt608.1)))) else (some (0, ([] : List (S63)), bt606.1)))
theorem cal_Join.mono_l : ∀ k, (∀ y0 y1 y2 y3 y4, LeO (cal_Join.j0 k y0 y1 y2 y3 y4) (cal_Join.j0 (k + 1) y0 y1 y2 y3 y4))
  | 0 => fun _ _ _ _ _ r h => by simp [cal_Join.j0] at h
  | k + 1 => by
    have ih0 := cal_Join.mono_l k
    · intro y0 y1 y2 y3 y4
      unfold cal_Join.j0
      repeat' first
      | (with_reducible exact ih0 _ _ _ _ _)
      | (with_reducible exact cal_moves.mono _ _ _)
      | (with_reducible exact LeO.refl _)
      | (with_reducible exact LeO.none _)
      | (with_reducible refine LeO.ite ?_ ?_)
      | (with_reducible refine LeO.bind ?_ (fun _ => ?_))
      | exact ih0 _ _ _ _ _
      | exact cal_moves.mono _ _ _
      | exact LeO.none _
      | refine LeO.ite ?_ ?_
      | refine LeO.bind ?_ (fun _ => ?_)
theorem cal_Join.mono : ∀ a0 a1 a2 a3 k, LeO (cal_Join.f k a0 a1 a2 a3) (cal_Join.f (k + 1) a0 a1 a2 a3) := by
  intro a0 a1 a2 a3 k
  have ih0 := cal_Join.mono_l k
  unfold cal_Join.f
  repeat' first
      | (with_reducible exact ih0 _ _ _ _ _)
      | (with_reducible exact cal_moves.mono _ _ _)
      | (with_reducible exact LeO.refl _)
      | (with_reducible exact LeO.none _)
      | (with_reducible refine LeO.ite ?_ ?_)
      | (with_reducible refine LeO.bind ?_ (fun _ => ?_))
      | exact ih0 _ _ _ _ _
      | exact cal_moves.mono _ _ _
      | exact LeO.none _
      | refine LeO.ite ?_ ?_
      | refine LeO.bind ?_ (fun _ => ?_)
def cal_Join.T11 : Bool × List (List Nat × List Nat) := (true, [([], []), ([0], [0]), ([], []), ([2], [2]), ([1, 3], [1, 3]), ([], []), ([5], [5]), ([4, 6, 4], [4, 6]), ([0, 1, 2, 3, 4, 5, 6, 7], []), ([8, 7, 7, 0, 1, 2, 3, 4, 5, 6, 7], [7, 8])])
def cal_Join.B11 : List Nat := [0, 1, 0, 4, 15, 0, 32, 127, 255, 511]
theorem cal_Join.tab11 : rtab .any (opsOf Try.f46 11) = cal_Join.T11 := by kernel_rfl
theorem cal_Join.bits11 : waitsOk cal_Join.T11.2 cal_Join.B11 = true := by kernel_rfl
set_option maxHeartbeats 8000000 in
set_option maxRecDepth 100000 in
theorem cal_Join.calls (k : Nat) (a0_0 : Int) (A0_1 : Option Addr) (c0_1 : Nat) (l0_1 : List (S63)) (a1_0 : Int) (A1_1 : Option Addr) (c1_1 : Nat) (l1_1 : List (S63)) (r1 : Int) (r2 : List (S63)) (r3 : Int) (w : World) (hr0_1 : Kd.C k63 w A0_1 l0_1.length l0_1) (hc0_1 : l0_1.length ≤ c0_1) (hr1_1 : Kd.C k63 w A1_1 l1_1.length l1_1) (hc1_1 : l1_1.length ≤ c1_1) (h : cal_Join.f k a0_0 l0_1 a1_0 l1_1 = some (r1, r2, r3)) :
    Calls Try.prog 46 #[.agg #[.int .i64 a0_0, .slice A0_1 l0_1.length c0_1], .agg #[.int .i64 a1_0, .slice A1_1 l1_1.length c1_1]] w fun e w' => ∃ v1_ : Value, e = .returned (.tuple #[.agg #[.int .i64 r1, v1_], .int .i64 r3]) ∧ Kd.R k63 63 w' w.heap.size (fun _ => True) v1_ r2 ∧ Below w.heap.size w w' := by
  have hu24 := Try.underlying24
  have HR0_1 := Aside0.mk hr0_1
  have HC0_1 := Aside0.mk hc0_1
  clear hr0_1 hc0_1
  have HR1_1 := Aside0.mk hr1_1
  have HC1_1 := Aside0.mk hc1_1
  clear hr1_1 hc1_1
  have HB := Aside0.mk (Below.refl w.heap.size w)
  have H : ((cal_Check.f a0_0 l0_1).bind fun bt606 => (if bt606.1 = 0 then ((cal_Check.f a1_0 l1_1).bind fun bt608 => (if bt608.1 = 0 then (if a0_0 = a1_0 then (cal_Join.j0 k false a0_0 l0_1 a1_0 l1_1) else ((cal_moves.f k a0_0 l0_1).bind fun t610 => (if t610 = true then (cal_Join.j0 k true a0_0 l0_1 a1_0 l1_1) else ((cal_moves.f k a1_0 l1_1).bind fun t611 => (cal_Join.j0 k t611 a0_0 l0_1 a1_0 l1_1))))) else (some (0, ([] : List (S63)), bt608.1)))) else (some (0, ([] : List (S63)), bt606.1)))) = some (r1, r2, r3) := h
  clear h
  replace H := Option.bind_eq_some_iff.mp H
  obtain ⟨⟨t606, t607⟩, A30, H⟩ := H
  replace H : (if t606 = 0 then ((cal_Check.f a1_0 l1_1).bind fun bt608 => (if bt608.1 = 0 then (if a0_0 = a1_0 then (cal_Join.j0 k false a0_0 l0_1 a1_0 l1_1) else ((cal_moves.f k a0_0 l0_1).bind fun t610 => (if t610 = true then (cal_Join.j0 k true a0_0 l0_1 a1_0 l1_1) else ((cal_moves.f k a1_0 l1_1).bind fun t611 => (cal_Join.j0 k t611 a0_0 l0_1 a1_0 l1_1))))) else (some (0, ([] : List (S63)), bt608.1)))) else (some (0, ([] : List (S63)), t606))) = some (r1, r2, r3) := H
  have A3 := Aside0.mk A30
  clear A30
  by_cases c4 : t606 = 0
  · rw [if_pos c4] at H
    have c4b0 : (t606 == 0) = true := beq_iff_eq.mpr c4
    have c4b1 : (t606 != 0) = false := bne_eq_false_iff_eq.mpr c4
    clear c4
    replace H := Option.bind_eq_some_iff.mp H
    obtain ⟨⟨t608, t609⟩, A50, H⟩ := H
    replace H : (if t608 = 0 then (if a0_0 = a1_0 then (cal_Join.j0 k false a0_0 l0_1 a1_0 l1_1) else ((cal_moves.f k a0_0 l0_1).bind fun t610 => (if t610 = true then (cal_Join.j0 k true a0_0 l0_1 a1_0 l1_1) else ((cal_moves.f k a1_0 l1_1).bind fun t611 => (cal_Join.j0 k t611 a0_0 l0_1 a1_0 l1_1))))) else (some (0, ([] : List (S63)), t608))) = some (r1, r2, r3) := H
    have A5 := Aside0.mk A50
    clear A50
    by_cases c6 : t608 = 0
    · rw [if_pos c6] at H
      have c6b0 : (t608 == 0) = true := beq_iff_eq.mpr c6
      have c6b1 : (t608 != 0) = false := bne_eq_false_iff_eq.mpr c6
      clear c6
      have HC7 := Aside0.mk H
      clear H
      go_enter Try.func46, Try.ntmps46
      go_upto_region 7 with (first | ((with_reducible refine gate_dst (N := 2) rfl ?_); refine box_event ?hg (N := 2) ?hd (cs := #[.int .i64 a0_0, .slice A0_1 l0_1.length c0_1]) (t := 24) ?hr ?_; (case hd => rfl); (case hg => rfl); (case hr => first | (go_simp; done) | (go_simp; rfl)); intro gb603 hg w8 hbox hb; have n0_ := Aside0.mk (below_step (by repeat (first | (with_reducible first | exact HB.out | apply below_alloc | apply pw_below_drewN | apply below_drew1) | exact HB.out)) hb); have n1_ := Aside0.mk (hbox); have n2_ := Aside0.mk ((by rw [hg]; exact (below_size (by repeat (first | (with_reducible first | exact HB.out | apply below_alloc | apply pw_below_drewN | apply below_drew1) | exact HB.out))) : w.heap.size ≤ gb603)); have n3_ := Aside0.mk ((by rw [hg]; exact (below_size (by repeat (first | (with_reducible first | exact HB.out | apply below_alloc | apply pw_below_drewN | apply below_drew1) | exact HB.out))) : w.heap.size ≤ gb603)); clear HB; have HB := n0_; have BK603 := n1_; have GW603 := n2_; have GE603 := n3_; clear n0_ n1_ n2_ n3_; clear hb hbox hg) | ((with_reducible refine gate_dst (N := 3) rfl ?_); refine box_event ?hg (N := 3) ?hd (cs := #[.int .i64 a1_0, .slice A1_1 l1_1.length c1_1]) (t := 24) ?hr ?_; (case hd => rfl); (case hg => rfl); (case hr => first | (go_simp; done) | (go_simp; rfl)); intro gb604 hg w9 hbox hb; have n0_ := Aside0.mk (blk_below (g := gb603) (o := .cells #[.int .i64 a0_0, .slice A0_1 l0_1.length c0_1] 24 (0, 0)) (by (with_reducible repeat (first | refine blk_drewN ?_ _ | refine blk_drew ?_ | refine blk_alloc ?_ _)); exact BK603.out) hb); have n1_ := Aside0.mk (below_step (by repeat (first | (with_reducible first | exact HB.out | apply below_alloc | apply pw_below_drewN | apply below_drew1 | refine below_set ?_ GE603.out) | exact HB.out)) hb); have n2_ := Aside0.mk (hbox); have n3_ := Aside0.mk ((by rw [hg]; exact (below_size (by repeat (first | (with_reducible first | exact HB.out | apply below_alloc | apply pw_below_drewN | apply below_drew1 | refine below_set ?_ GE603.out) | exact HB.out))) : w.heap.size ≤ gb604)); have n4_ := Aside0.mk ((by rw [hg]; exact (below_size (by repeat (first | (with_reducible first | exact HB.out | apply below_alloc | apply pw_below_drewN | apply below_drew1 | refine below_set ?_ GE603.out) | exact HB.out))) : w.heap.size ≤ gb604)); have n5_ := Aside0.mk ((by rw [hg]; exact Nat.ne_of_lt (blk_lt (g := gb603) (o := .cells #[.int .i64 a0_0, .slice A0_1 l0_1.length c0_1] 24 (0, 0)) (by (with_reducible repeat (first | refine blk_drewN ?_ _ | refine blk_drew ?_ | refine blk_alloc ?_ _)); exact BK603.out)) : gb603 ≠ gb604)); have n6_ := Aside0.mk ((by rw [hg]; exact Nat.ne_of_gt (blk_lt (g := gb603) (o := .cells #[.int .i64 a0_0, .slice A0_1 l0_1.length c0_1] 24 (0, 0)) (by (with_reducible repeat (first | refine blk_drewN ?_ _ | refine blk_drew ?_ | refine blk_alloc ?_ _)); exact BK603.out)) : gb604 ≠ gb603)); clear BK603; clear HB; have BK603 := n0_; have HB := n1_; have BK604 := n2_; have GW604 := n3_; have GE604 := n4_; have NB603_604 := n5_; have NB604_603 := n6_; clear n0_ n1_ n2_ n3_ n4_ n5_ n6_; clear hb hbox hg) | ((with_reducible refine gate_dst (N := 4) rfl ?_); refine box_event ?hg (N := 4) ?hd (cs := #[.int .i64 0, .slice none 0 0]) (t := 24) ?hr ?_; (case hd => rfl); (case hg => rfl); (case hr => first | (go_simp; done) | (go_simp; rfl)); intro gb605 hg w10 hbox hb; have n0_ := Aside0.mk (blk_below (g := gb603) (o := .cells #[.int .i64 a0_0, .slice A0_1 l0_1.length c0_1] 24 (0, 0)) (by (with_reducible repeat (first | refine blk_drewN ?_ _ | refine blk_drew ?_ | refine blk_alloc ?_ _)); exact BK603.out) hb); have n1_ := Aside0.mk (blk_below (g := gb604) (o := .cells #[.int .i64 a1_0, .slice A1_1 l1_1.length c1_1] 24 (0, 0)) (by (with_reducible repeat (first | refine blk_drewN ?_ _ | refine blk_drew ?_ | refine blk_alloc ?_ _)); exact BK604.out) hb); have n2_ := Aside0.mk (below_step (by repeat (first | (with_reducible first | exact HB.out | apply below_alloc | apply pw_below_drewN | apply below_drew1 | refine below_set ?_ GE603.out | refine below_set ?_ GE604.out) | exact HB.out)) hb); have n3_ := Aside0.mk (hbox); have n4_ := Aside0.mk ((by rw [hg]; exact (below_size (by repeat (first | (with_reducible first | exact HB.out | apply below_alloc | apply pw_below_drewN | apply below_drew1 | refine below_set ?_ GE603.out | refine below_set ?_ GE604.out) | exact HB.out))) : w.heap.size ≤ gb605)); have n5_ := Aside0.mk ((by rw [hg]; exact (below_size (by repeat (first | (with_reducible first | exact HB.out | apply below_alloc | apply pw_below_drewN | apply below_drew1 | refine below_set ?_ GE603.out | refine below_set ?_ GE604.out) | exact HB.out))) : w.heap.size ≤ gb605)); have n6_ := Aside0.mk ((by rw [hg]; exact Nat.ne_of_lt (blk_lt (g := gb603) (o := .cells #[.int .i64 a0_0, .slice A0_1 l0_1.length c0_1] 24 (0, 0)) (by (with_reducible repeat (first | refine blk_drewN ?_ _ | refine blk_drew ?_ | refine blk_alloc ?_ _)); exact BK603.out)) : gb603 ≠ gb605)); have n7_ := Aside0.mk ((by rw [hg]; exact Nat.ne_of_gt (blk_lt (g := gb603) (o := .cells #[.int .i64 a0_0, .slice A0_1 l0_1.length c0_1] 24 (0, 0)) (by (with_reducible repeat (first | refine blk_drewN ?_ _ | refine blk_drew ?_ | refine blk_alloc ?_ _)); exact BK603.out)) : gb605 ≠ gb603)); have n8_ := Aside0.mk ((by rw [hg]; exact Nat.ne_of_lt (blk_lt (g := gb604) (o := .cells #[.int .i64 a1_0, .slice A1_1 l1_1.length c1_1] 24 (0, 0)) (by (with_reducible repeat (first | refine blk_drewN ?_ _ | refine blk_drew ?_ | refine blk_alloc ?_ _)); exact BK604.out)) : gb604 ≠ gb605)); have n9_ := Aside0.mk ((by rw [hg]; exact Nat.ne_of_gt (blk_lt (g := gb604) (o := .cells #[.int .i64 a1_0, .slice A1_1 l1_1.length c1_1] 24 (0, 0)) (by (with_reducible repeat (first | refine blk_drewN ?_ _ | refine blk_drew ?_ | refine blk_alloc ?_ _)); exact BK604.out)) : gb605 ≠ gb604)); clear BK603; clear BK604; clear HB; have BK603 := n0_; have BK604 := n1_; have HB := n2_; have BK605 := n3_; have GW605 := n4_; have GE605 := n5_; have NB603_605 := n6_; have NB605_603 := n7_; have NB604_605 := n8_; have NB605_604 := n9_; clear n0_ n1_ n2_ n3_ n4_ n5_ n6_ n7_ n8_ n9_; clear hb hbox hg; have hnb11 := NB603_604.out; have hnc11 := NB604_603.out; have hnb12 := NB603_605.out; have hnc12 := NB605_603.out; have hcz13_0 : w10.cell? ⟨gb603, 0, none⟩ = some (.int .i64 a0_0) := (blk_cell BK603.out 0).trans rfl; have hcz13_1 : w10.cell? ⟨gb603, 1, none⟩ = some (.slice A0_1 l0_1.length c0_1) := (blk_cell BK603.out 1).trans rfl; have hfz13_0 := blk_frozen BK603.out 0; have hfz13_1 := blk_frozen BK603.out 1) | ((with_reducible refine gate_callee (f := 44) rfl ?_); refine goesL_ (some 15) rfl rfl Try.func44 (by kernel_rfl) rfl #[.agg #[.int .i64 a0_0, .slice A0_1 l0_1.length c0_1]] rfl (by (try simp only [List.map_toArray, List.map_cons, List.map_nil]); first | done | rfl | (simp only [List.length_drop, List.length_take]; rfl)) ?_; (with_reducible refine (cal_Check.calls a0_0 _ _ l0_1 t606 t607 _ ?side1 ?side2 A3.out).mono ?_); (case side1 => repeat (first | exact (Kd.C_below HR0_1.out HB.out) | (with_reducible refine Kd.C_alloc ?_ _) | (with_reducible refine Kd.C_drewN ?_ _) | (with_reducible refine Kd.C_drew ?_))); (case side2 => exact HC0_1.out); rintro e w14 ⟨rfl, hb⟩; refine ⟨_, rfl, ?_⟩; have n0_ := Aside0.mk (blk_below (g := gb603) (o := .cells #[.int .i64 a0_0, .slice A0_1 l0_1.length c0_1] 24 (0, 0)) (by (with_reducible repeat (first | refine blk_drewN ?_ _ | refine blk_drew ?_ | refine blk_alloc ?_ _)); exact BK603.out) hb); have n1_ := Aside0.mk (blk_below (g := gb604) (o := .cells #[.int .i64 a1_0, .slice A1_1 l1_1.length c1_1] 24 (0, 0)) (by (with_reducible repeat (first | refine blk_drewN ?_ _ | refine blk_drew ?_ | refine blk_alloc ?_ _)); exact BK604.out) hb); have n2_ := Aside0.mk (blk_below (g := gb605) (o := .cells #[.int .i64 0, .slice none 0 0] 24 (0, 0)) (by (with_reducible repeat (first | refine blk_drewN ?_ _ | refine blk_drew ?_ | refine blk_alloc ?_ _)); exact BK605.out) hb); have n3_ := Aside0.mk (below_step (by repeat (first | (with_reducible first | exact HB.out | apply below_alloc | apply pw_below_drewN | apply below_drew1 | refine below_set ?_ GE603.out | refine below_set ?_ GE604.out | refine below_set ?_ GE605.out) | exact HB.out)) hb); clear BK603; clear BK604; clear BK605; clear HB; have BK603 := n0_; have BK604 := n1_; have BK605 := n2_; have HB := n3_; clear n0_ n1_ n2_ n3_; (try clear hb); (try clear hb2); (try clear hk); (try clear hi); have hnb15 := NB604_605.out; have hnc15 := NB605_604.out; have hcz16_0 : w14.cell? ⟨gb604, 0, none⟩ = some (.int .i64 a1_0) := (blk_cell BK604.out 0).trans rfl; have hcz16_1 : w14.cell? ⟨gb604, 1, none⟩ = some (.slice A1_1 l1_1.length c1_1) := (blk_cell BK604.out 1).trans rfl; have hfz16_0 := blk_frozen BK604.out 0; have hfz16_1 := blk_frozen BK604.out 1) | ((with_reducible refine gate_callee (f := 44) rfl ?_); refine goesL_ (some 24) rfl rfl Try.func44 (by kernel_rfl) rfl #[.agg #[.int .i64 a1_0, .slice A1_1 l1_1.length c1_1]] rfl (by (try simp only [List.map_toArray, List.map_cons, List.map_nil]); first | done | rfl | (simp only [List.length_drop, List.length_take]; rfl)) ?_; (with_reducible refine (cal_Check.calls a1_0 _ _ l1_1 t608 t609 _ ?side1 ?side2 A5.out).mono ?_); (case side1 => repeat (first | exact (Kd.C_below HR1_1.out HB.out) | (with_reducible refine Kd.C_alloc ?_ _) | (with_reducible refine Kd.C_drewN ?_ _) | (with_reducible refine Kd.C_drew ?_))); (case side2 => exact HC1_1.out); rintro e w17 ⟨rfl, hb⟩; refine ⟨_, rfl, ?_⟩; have n0_ := Aside0.mk (blk_below (g := gb603) (o := .cells #[.int .i64 a0_0, .slice A0_1 l0_1.length c0_1] 24 (0, 0)) (by (with_reducible repeat (first | refine blk_drewN ?_ _ | refine blk_drew ?_ | refine blk_alloc ?_ _)); exact BK603.out) hb); have n1_ := Aside0.mk (blk_below (g := gb604) (o := .cells #[.int .i64 a1_0, .slice A1_1 l1_1.length c1_1] 24 (0, 0)) (by (with_reducible repeat (first | refine blk_drewN ?_ _ | refine blk_drew ?_ | refine blk_alloc ?_ _)); exact BK604.out) hb); have n2_ := Aside0.mk (blk_below (g := gb605) (o := .cells #[.int .i64 0, .slice none 0 0] 24 (0, 0)) (by (with_reducible repeat (first | refine blk_drewN ?_ _ | refine blk_drew ?_ | refine blk_alloc ?_ _)); exact BK605.out) hb); have n3_ := Aside0.mk (below_step (by repeat (first | (with_reducible first | exact HB.out | apply below_alloc | apply pw_below_drewN | apply below_drew1 | refine below_set ?_ GE603.out | refine below_set ?_ GE604.out | refine below_set ?_ GE605.out) | exact HB.out)) hb); clear BK603; clear BK604; clear BK605; clear HB; have BK603 := n0_; have BK604 := n1_; have BK605 := n2_; have HB := n3_; clear n0_ n1_ n2_ n3_; (try clear hb); (try clear hb2); (try clear hk); (try clear hi)))
      (try simp only [Act.put, List.setIfInBounds_toArray, List.set_cons_zero, List.set_cons_succ])
      go_cut [43] (fun v43 wc => ∃ (kq : Nat) (x43_6 : Bool), v43 = .bool x43_6 ∧ Aside0 (cal_Join.j0 kq x43_6 a0_0 l0_1 a1_0 l1_1 = some (r1, r2, r3)) ∧ Aside0 (kq ≤ k) ∧ Aside0 (wc.heap[gb603]? = some (.cells #[.int .i64 a0_0, (.slice A0_1 l0_1.length c0_1)] 24 (0, 0))) ∧ Aside0 (wc.heap[gb604]? = some (.cells #[.int .i64 a1_0, (.slice A1_1 l1_1.length c1_1)] 24 (0, 0))) ∧ Aside0 (wc.heap[gb605]? = some (.cells #[.int .i64 0, (.slice none 0 0)] 24 (0, 0))) ∧ Aside0 (Below w.heap.size w wc))
      case first =>
        have H := HC7.out
        clear HC7
        by_cases c18 : a0_0 = a1_0
        · rw [if_pos c18] at H
          have c18b0 : (a0_0 == a1_0) = true := beq_iff_eq.mpr c18
          have c18b1 : (a0_0 != a1_0) = false := bne_eq_false_iff_eq.mpr c18
          clear c18
          (first | rw [c18b0] | (simp only [i64_w, i32_w]; rw [c18b0]) | skip)
          have H' := Aside0.mk H
          clear H
          have hnb19 := NB603_604.out
          have hnc19 := NB604_603.out
          have hnb20 := NB603_605.out
          have hnc20 := NB605_603.out
          have hcz21_0 : w17.cell? ⟨gb603, 0, none⟩ = some (.int .i64 a0_0) := (blk_cell BK603.out 0).trans rfl
          have hcz21_1 : w17.cell? ⟨gb603, 1, none⟩ = some (.slice A0_1 l0_1.length c0_1) := (blk_cell BK603.out 1).trans rfl
          have hfz21_0 := blk_frozen BK603.out 0
          have hfz21_1 := blk_frozen BK603.out 1
          have hnb22 := NB604_605.out
          have hnc22 := NB605_604.out
          have hcz23_0 : w17.cell? ⟨gb604, 0, none⟩ = some (.int .i64 a1_0) := (blk_cell BK604.out 0).trans rfl
          have hcz23_1 : w17.cell? ⟨gb604, 1, none⟩ = some (.slice A1_1 l1_1.length c1_1) := (blk_cell BK604.out 1).trans rfl
          have hfz23_0 := blk_frozen BK604.out 0
          have hfz23_1 := blk_frozen BK604.out 1
          go_wp2
          go_meet
          case rel => exact ⟨_, (false), (by first | rfl | (simp; done) | (simp [*]; done)), H', ⟨by first | omega | exact Nat.le_refl _⟩, ⟨by (with_reducible repeat (first | refine blk_drewN ?_ _ | refine blk_drew ?_ | refine blk_alloc ?_ _)); exact BK603.out⟩, ⟨by (with_reducible repeat (first | refine blk_drewN ?_ _ | refine blk_drew ?_ | refine blk_alloc ?_ _)); exact BK604.out⟩, ⟨by (with_reducible repeat (first | refine blk_drewN ?_ _ | refine blk_drew ?_ | refine blk_alloc ?_ _)); exact BK605.out⟩, ⟨by repeat (first | (with_reducible first | exact HB.out | apply below_alloc | apply pw_below_drewN | apply below_drew1 | refine below_set ?_ GE603.out | refine below_set ?_ GE604.out | refine below_set ?_ GE605.out) | exact HB.out)⟩⟩
        · rw [if_neg c18] at H
          have c18b0 : (a0_0 == a1_0) = false := beq_eq_false_iff_ne.mpr c18
          have c18b1 : (a0_0 != a1_0) = true := bne_iff_ne.mpr c18
          (first | rw [c18b0] | (simp only [i64_w, i32_w]; rw [c18b0]) | skip)
          replace H := Option.bind_eq_some_iff.mp H
          obtain ⟨t610, A240, H⟩ := H
          replace H : (if t610 = true then (cal_Join.j0 k true a0_0 l0_1 a1_0 l1_1) else ((cal_moves.f k a1_0 l1_1).bind fun t611 => (cal_Join.j0 k t611 a0_0 l0_1 a1_0 l1_1))) = some (r1, r2, r3) := H
          have A24 := Aside0.mk A240
          clear A240
          by_cases c25 : t610 = true
          · subst c25
            have H1 : (cal_Join.j0 k true a0_0 l0_1 a1_0 l1_1) = some (r1, r2, r3) := by rw [if_pos rfl] at H; exact H
            clear H
            have H := H1
            clear H1
            have H' := Aside0.mk H
            clear H
            have hnb26 := NB603_604.out
            have hnc26 := NB604_603.out
            have hnb27 := NB603_605.out
            have hnc27 := NB605_603.out
            have hcz28_0 : w17.cell? ⟨gb603, 0, none⟩ = some (.int .i64 a0_0) := (blk_cell BK603.out 0).trans rfl
            have hcz28_1 : w17.cell? ⟨gb603, 1, none⟩ = some (.slice A0_1 l0_1.length c0_1) := (blk_cell BK603.out 1).trans rfl
            have hfz28_0 := blk_frozen BK603.out 0
            have hfz28_1 := blk_frozen BK603.out 1
            have hnb29 := NB604_605.out
            have hnc29 := NB605_604.out
            have hcz30_0 : w17.cell? ⟨gb604, 0, none⟩ = some (.int .i64 a1_0) := (blk_cell BK604.out 0).trans rfl
            have hcz30_1 : w17.cell? ⟨gb604, 1, none⟩ = some (.slice A1_1 l1_1.length c1_1) := (blk_cell BK604.out 1).trans rfl
            have hfz30_0 := blk_frozen BK604.out 0
            have hfz30_1 := blk_frozen BK604.out 1
            go_wp2_with (first | (go_at_call 86; (with_reducible refine (cal_moves.calls k a0_0 _ _ l0_1 true _ ?side1 ?side2 A24.out).mono ?_); (case side1 => repeat (first | exact (Kd.C_below HR0_1.out HB.out) | (with_reducible refine Kd.C_alloc ?_ _) | (with_reducible refine Kd.C_drewN ?_ _) | (with_reducible refine Kd.C_drew ?_))); (case side2 => exact HC0_1.out); rintro e w31 ⟨rfl, hb⟩; have n0_ := Aside0.mk (blk_below (g := gb603) (o := .cells #[.int .i64 a0_0, .slice A0_1 l0_1.length c0_1] 24 (0, 0)) (by (with_reducible repeat (first | refine blk_drewN ?_ _ | refine blk_drew ?_ | refine blk_alloc ?_ _)); exact BK603.out) hb); have n1_ := Aside0.mk (blk_below (g := gb604) (o := .cells #[.int .i64 a1_0, .slice A1_1 l1_1.length c1_1] 24 (0, 0)) (by (with_reducible repeat (first | refine blk_drewN ?_ _ | refine blk_drew ?_ | refine blk_alloc ?_ _)); exact BK604.out) hb); have n2_ := Aside0.mk (blk_below (g := gb605) (o := .cells #[.int .i64 0, .slice none 0 0] 24 (0, 0)) (by (with_reducible repeat (first | refine blk_drewN ?_ _ | refine blk_drew ?_ | refine blk_alloc ?_ _)); exact BK605.out) hb); have n3_ := Aside0.mk (below_step (by repeat (first | (with_reducible first | exact HB.out | apply below_alloc | apply pw_below_drewN | apply below_drew1 | refine below_set ?_ GE603.out | refine below_set ?_ GE604.out | refine below_set ?_ GE605.out) | exact HB.out)) hb); clear BK603; clear BK604; clear BK605; clear HB; have BK603 := n0_; have BK604 := n1_; have BK605 := n2_; have HB := n3_; clear n0_ n1_ n2_ n3_; (try clear hb); (try clear hb2); (try clear hk); (try clear hi)))
            go_meet
            case rel => exact ⟨_, (true), (by first | rfl | (simp; done) | (simp [*]; done)), H', ⟨by first | omega | exact Nat.le_refl _⟩, ⟨by (with_reducible repeat (first | refine blk_drewN ?_ _ | refine blk_drew ?_ | refine blk_alloc ?_ _)); exact BK603.out⟩, ⟨by (with_reducible repeat (first | refine blk_drewN ?_ _ | refine blk_drew ?_ | refine blk_alloc ?_ _)); exact BK604.out⟩, ⟨by (with_reducible repeat (first | refine blk_drewN ?_ _ | refine blk_drew ?_ | refine blk_alloc ?_ _)); exact BK605.out⟩, ⟨by repeat (first | (with_reducible first | exact HB.out | apply below_alloc | apply pw_below_drewN | apply below_drew1 | refine below_set ?_ GE603.out | refine below_set ?_ GE604.out | refine below_set ?_ GE605.out) | exact HB.out)⟩⟩
          · replace c25 := Bool.eq_false_iff.mpr c25
            subst c25
            have H1 : ((cal_moves.f k a1_0 l1_1).bind fun t611 => (cal_Join.j0 k t611 a0_0 l0_1 a1_0 l1_1)) = some (r1, r2, r3) := by rw [if_neg (show ¬ (false = true) by decide)] at H; exact H
            clear H
            have H := H1
            clear H1
            replace H := Option.bind_eq_some_iff.mp H
            obtain ⟨t611, A320, H⟩ := H
            replace H : (cal_Join.j0 k t611 a0_0 l0_1 a1_0 l1_1) = some (r1, r2, r3) := H
            have A32 := Aside0.mk A320
            clear A320
            have H' := Aside0.mk H
            clear H
            have hnb33 := NB603_604.out
            have hnc33 := NB604_603.out
            have hnb34 := NB603_605.out
            have hnc34 := NB605_603.out
            have hcz35_0 : w17.cell? ⟨gb603, 0, none⟩ = some (.int .i64 a0_0) := (blk_cell BK603.out 0).trans rfl
            have hcz35_1 : w17.cell? ⟨gb603, 1, none⟩ = some (.slice A0_1 l0_1.length c0_1) := (blk_cell BK603.out 1).trans rfl
            have hfz35_0 := blk_frozen BK603.out 0
            have hfz35_1 := blk_frozen BK603.out 1
            have hnb36 := NB604_605.out
            have hnc36 := NB605_604.out
            have hcz37_0 : w17.cell? ⟨gb604, 0, none⟩ = some (.int .i64 a1_0) := (blk_cell BK604.out 0).trans rfl
            have hcz37_1 : w17.cell? ⟨gb604, 1, none⟩ = some (.slice A1_1 l1_1.length c1_1) := (blk_cell BK604.out 1).trans rfl
            have hfz37_0 := blk_frozen BK604.out 0
            have hfz37_1 := blk_frozen BK604.out 1
            go_wp2_with (first | (go_at_call 86; (with_reducible refine (cal_moves.calls k a0_0 _ _ l0_1 false _ ?side1 ?side2 A24.out).mono ?_); (case side1 => repeat (first | exact (Kd.C_below HR0_1.out HB.out) | (with_reducible refine Kd.C_alloc ?_ _) | (with_reducible refine Kd.C_drewN ?_ _) | (with_reducible refine Kd.C_drew ?_))); (case side2 => exact HC0_1.out); rintro e w38 ⟨rfl, hb⟩; have n0_ := Aside0.mk (blk_below (g := gb603) (o := .cells #[.int .i64 a0_0, .slice A0_1 l0_1.length c0_1] 24 (0, 0)) (by (with_reducible repeat (first | refine blk_drewN ?_ _ | refine blk_drew ?_ | refine blk_alloc ?_ _)); exact BK603.out) hb); have n1_ := Aside0.mk (blk_below (g := gb604) (o := .cells #[.int .i64 a1_0, .slice A1_1 l1_1.length c1_1] 24 (0, 0)) (by (with_reducible repeat (first | refine blk_drewN ?_ _ | refine blk_drew ?_ | refine blk_alloc ?_ _)); exact BK604.out) hb); have n2_ := Aside0.mk (blk_below (g := gb605) (o := .cells #[.int .i64 0, .slice none 0 0] 24 (0, 0)) (by (with_reducible repeat (first | refine blk_drewN ?_ _ | refine blk_drew ?_ | refine blk_alloc ?_ _)); exact BK605.out) hb); have n3_ := Aside0.mk (below_step (by repeat (first | (with_reducible first | exact HB.out | apply below_alloc | apply pw_below_drewN | apply below_drew1 | refine below_set ?_ GE603.out | refine below_set ?_ GE604.out | refine below_set ?_ GE605.out) | exact HB.out)) hb); clear BK603; clear BK604; clear BK605; clear HB; have BK603 := n0_; have BK604 := n1_; have BK605 := n2_; have HB := n3_; clear n0_ n1_ n2_ n3_; (try clear hb); (try clear hb2); (try clear hk); (try clear hi); have hcz39_0 : w38.cell? ⟨gb604, 0, none⟩ = some (.int .i64 a1_0) := (blk_cell BK604.out 0).trans rfl; have hcz39_1 : w38.cell? ⟨gb604, 1, none⟩ = some (.slice A1_1 l1_1.length c1_1) := (blk_cell BK604.out 1).trans rfl; have hfz39_0 := blk_frozen BK604.out 0; have hfz39_1 := blk_frozen BK604.out 1) | (go_at_call 86; (with_reducible refine (cal_moves.calls k a1_0 _ _ l1_1 t611 _ ?side1 ?side2 A32.out).mono ?_); (case side1 => repeat (first | exact (Kd.C_below HR1_1.out HB.out) | (with_reducible refine Kd.C_alloc ?_ _) | (with_reducible refine Kd.C_drewN ?_ _) | (with_reducible refine Kd.C_drew ?_))); (case side2 => exact HC1_1.out); rintro e w40 ⟨rfl, hb⟩; have n0_ := Aside0.mk (blk_below (g := gb603) (o := .cells #[.int .i64 a0_0, .slice A0_1 l0_1.length c0_1] 24 (0, 0)) (by (with_reducible repeat (first | refine blk_drewN ?_ _ | refine blk_drew ?_ | refine blk_alloc ?_ _)); exact BK603.out) hb); have n1_ := Aside0.mk (blk_below (g := gb604) (o := .cells #[.int .i64 a1_0, .slice A1_1 l1_1.length c1_1] 24 (0, 0)) (by (with_reducible repeat (first | refine blk_drewN ?_ _ | refine blk_drew ?_ | refine blk_alloc ?_ _)); exact BK604.out) hb); have n2_ := Aside0.mk (blk_below (g := gb605) (o := .cells #[.int .i64 0, .slice none 0 0] 24 (0, 0)) (by (with_reducible repeat (first | refine blk_drewN ?_ _ | refine blk_drew ?_ | refine blk_alloc ?_ _)); exact BK605.out) hb); have n3_ := Aside0.mk (below_step (by repeat (first | (with_reducible first | exact HB.out | apply below_alloc | apply pw_below_drewN | apply below_drew1 | refine below_set ?_ GE603.out | refine below_set ?_ GE604.out | refine below_set ?_ GE605.out) | exact HB.out)) hb); clear BK603; clear BK604; clear BK605; clear HB; have BK603 := n0_; have BK604 := n1_; have BK605 := n2_; have HB := n3_; clear n0_ n1_ n2_ n3_; (try clear hb); (try clear hb2); (try clear hk); (try clear hi)))
            go_meet
            case rel => exact ⟨_, (t611), (by first | rfl | (simp; done) | (simp [*]; done)), H', ⟨by first | omega | exact Nat.le_refl _⟩, ⟨by (with_reducible repeat (first | refine blk_drewN ?_ _ | refine blk_drew ?_ | refine blk_alloc ?_ _)); exact BK603.out⟩, ⟨by (with_reducible repeat (first | refine blk_drewN ?_ _ | refine blk_drew ?_ | refine blk_alloc ?_ _)); exact BK604.out⟩, ⟨by (with_reducible repeat (first | refine blk_drewN ?_ _ | refine blk_drew ?_ | refine blk_alloc ?_ _)); exact BK605.out⟩, ⟨by repeat (first | (with_reducible first | exact HB.out | apply below_alloc | apply pw_below_drewN | apply below_drew1 | refine below_set ?_ GE603.out | refine below_set ?_ GE604.out | refine below_set ?_ GE605.out) | exact HB.out)⟩⟩
      case rest =>
        clear HC7
        try clear c1
        try clear c2
        try clear p2
        try clear c3
        try clear c4
        try clear c4b0
        try clear c4b1
        try clear c6
        try clear c6b0
        try clear c6b1
        try clear c11
        try clear c12
        try clear c15
        try clear c18
        try clear c18b0
        try clear c18b1
        try clear c19
        try clear c20
        try clear c22
        try clear c25
        try clear c26
        try clear c27
        try clear c29
        try clear c33
        try clear c34
        try clear c36
        try clear hcz13_0
        try clear hcz13_1
        try clear hcz16_0
        try clear hcz16_1
        try clear hcz21_0
        try clear hcz21_1
        try clear hcz23_0
        try clear hcz23_1
        try clear hcz28_0
        try clear hcz28_1
        try clear hcz30_0
        try clear hcz30_1
        try clear hcz35_0
        try clear hcz35_1
        try clear hcz37_0
        try clear hcz37_1
        try clear hcz39_0
        try clear hcz39_1
        try clear hfz13_0
        try clear hfz13_1
        try clear hfz16_0
        try clear hfz16_1
        try clear hfz21_0
        try clear hfz21_1
        try clear hfz23_0
        try clear hfz23_1
        try clear hfz28_0
        try clear hfz28_1
        try clear hfz30_0
        try clear hfz30_1
        try clear hfz35_0
        try clear hfz35_1
        try clear hfz37_0
        try clear hfz37_1
        try clear hfz39_0
        try clear hfz39_1
        obtain ⟨kq, x43_6, rfl, HA, HJ6, BK603, BK604, BK605, HB⟩ := hcut
        cases kq with
        | zero => exact absurd HA.out (by simp [cal_Join.j0])
        | succ kj6 =>
          have H := HA.out
          clear HA
          simp only [cal_Join.j0] at H
          by_cases c41 : x43_6 = true
          · subst c41
            have H1 : (some (0, ([] : List (S63)), 60)) = some (r1, r2, r3) := by rw [if_pos rfl] at H; exact H
            clear H
            have H := H1
            clear H1
            simp only [Option.some.injEq, Prod.mk.injEq] at H
            obtain ⟨rfl, rfl, rfl⟩ := H
            have hnb42 := NB605_603.out
            have hnc42 := NB603_605.out
            have hnb43 := NB605_604.out
            have hnc43 := NB604_605.out
            have hcz44_0 : wc.cell? ⟨gb605, 0, none⟩ = some (.int .i64 0) := (blk_cell BK605.out 0).trans rfl
            have hcz44_1 : wc.cell? ⟨gb605, 1, none⟩ = some (.slice none 0 0) := (blk_cell BK605.out 1).trans rfl
            have hfz44_0 := blk_frozen BK605.out 0
            have hfz44_1 := blk_frozen BK605.out 1
            go_wp2
            refine bodyPost_ret (results_ct rfl _ _ gb605 24 #[.int .i64 0, .slice none 0 0] (0, 0) _ rfl (by (with_reducible repeat (first | refine blk_drewN ?_ _ | refine blk_drew ?_ | refine blk_alloc ?_ _)); refine blk_put (cs := #[.int .i64 0, .slice none 0 0]) ?_ 1 _ rfl; (with_reducible repeat (first | refine blk_drewN ?_ _ | refine blk_drew ?_ | refine blk_alloc ?_ _)); refine blk_put (cs := #[.int .i64 0, .slice none 0 0]) ?_ 0 _ rfl; (with_reducible repeat (first | refine blk_drewN ?_ _ | refine blk_drew ?_ | refine blk_alloc ?_ _)); exact BK605.out) Try.underlying24 rfl (by kernel_rfl)) rfl ?_
            exact ⟨_, by first | rfl | (simp [errW_none, errW_some] <;> rfl) | (simp [*, errW_none, errW_some] <;> rfl), by first | exact Kd.R_nil _ _ _ _ _ | exact Kd.N_nil _ _ _ _ _ | exact Kd.V_nil _ _ _ _ _ | exact Kd.Q_nil _ _ _ _ _ | exact Kd.S_nil _ _ _ _ _, by repeat (first | (with_reducible first | exact HB.out | apply below_alloc | apply pw_below_drewN | apply below_drew1 | refine below_set ?_ GE603.out | refine below_set ?_ GE604.out | refine below_set ?_ GE605.out) | exact HB.out)⟩
          · replace c41 := Bool.eq_false_iff.mpr c41
            subst c41
            have H1 : (if 0 ≤ (wrap64 ((l0_1.length : Int) + (l1_1.length : Int))) then (if (wrap64 ((l0_1.length : Int) + (l1_1.length : Int)) : Int).toNat ≤ 3909374676536 then ((some (List.replicate 0 z63 : List (S63))).bind fun y613 => (if y613.length + l0_1.length < 1954687338268 then ((some (y613 ++ l0_1 : List (S63))).bind fun y616 => (if y616.length + l1_1.length < 1954687338268 then ((some (y616 ++ l1_1 : List (S63))).bind fun y619 => ((cal_Check.f (Go.bits .or .i64 a0_0 a1_0) y619).bind fun bt622 => (if bt622.1 = 0 then (some (Go.bits .or .i64 a0_0 a1_0, y619, 0)) else (some (0, ([] : List (S63)), bt622.1))))) else (none))) else (none))) else (none)) else (none)) = some (r1, r2, r3) := by rw [if_neg (show ¬ (false = true) by decide)] at H; exact H
            clear H
            have H := H1
            clear H1
            obtain ⟨ji45, hji45⟩ : ∃ j_ : Int, (wrap64 ((l0_1.length : Int) + (l1_1.length : Int))) = j_ := ⟨_, rfl⟩
            replace H : (if 0 ≤ (ji45) then (if (ji45 : Int).toNat ≤ 3909374676536 then ((some (List.replicate 0 z63 : List (S63))).bind fun y613 => (if y613.length + l0_1.length < 1954687338268 then ((some (y613 ++ l0_1 : List (S63))).bind fun y616 => (if y616.length + l1_1.length < 1954687338268 then ((some (y616 ++ l1_1 : List (S63))).bind fun y619 => ((cal_Check.f (Go.bits .or .i64 a0_0 a1_0) y619).bind fun bt622 => (if bt622.1 = 0 then (some (Go.bits .or .i64 a0_0 a1_0, y619, 0)) else (some (0, ([] : List (S63)), bt622.1))))) else (none))) else (none))) else (none)) else (none)) = some (r1, r2, r3) := by first | (rw [hji45] at H; exact H) | (simp only [hji45] at H ⊢; exact H)
            have hji45w : (IntKind.i64.wrap ((l0_1.length : Int) + (l1_1.length : Int))) = ji45 := (i64_w _).trans hji45
            by_cases c46 : 0 ≤ (ji45)
            · rw [if_pos c46] at H
              have c46b0 := eq_true c46
              have c46b1 : decide (0 ≤ (ji45)) = true := decide_eq_true c46
              clear c46
              by_cases c47 : (ji45 : Int).toNat ≤ 3909374676536
              · rw [if_pos c47] at H
                have c47b0 := eq_true c47
                have c47b1 : decide ((ji45 : Int).toNat ≤ 3909374676536) = true := decide_eq_true c47
                clear c47
                obtain ⟨y613, hy613⟩ : ∃ y_ : List (S63), y_ = (List.replicate 0 z63) := ⟨_, rfl⟩
                replace H : (if y613.length + l0_1.length < 1954687338268 then ((some (y613 ++ l0_1 : List (S63))).bind fun y616 => (if y616.length + l1_1.length < 1954687338268 then ((some (y616 ++ l1_1 : List (S63))).bind fun y619 => ((cal_Check.f (Go.bits .or .i64 a0_0 a1_0) y619).bind fun bt622 => (if bt622.1 = 0 then (some (Go.bits .or .i64 a0_0 a1_0, y619, 0)) else (some (0, ([] : List (S63)), bt622.1))))) else (none))) else (none)) = some (r1, r2, r3) := by first | (rw [hy613]; with_reducible exact H) | (have H2_ := (Option.bind_some _ _).symm.trans H; rw [hy613]; with_reducible exact H2_) | (have H2_ := (Option.bind_some _ _).symm.trans H; with_reducible exact H2_) | with_reducible exact H | (rw [hy613]; exact H) | exact H
                have Ny613 := Aside0.mk hy613
                clear hy613
                by_cases c48 : y613.length + l0_1.length < 1954687338268
                · rw [if_pos c48] at H
                  have LMc48 := Aside0.mk c48
                  clear c48
                  obtain ⟨y616, hy616⟩ : ∃ y_ : List (S63), y_ = (y613 ++ l0_1) := ⟨_, rfl⟩
                  replace H : (if y616.length + l1_1.length < 1954687338268 then ((some (y616 ++ l1_1 : List (S63))).bind fun y619 => ((cal_Check.f (Go.bits .or .i64 a0_0 a1_0) y619).bind fun bt622 => (if bt622.1 = 0 then (some (Go.bits .or .i64 a0_0 a1_0, y619, 0)) else (some (0, ([] : List (S63)), bt622.1))))) else (none)) = some (r1, r2, r3) := by first | (rw [hy616]; with_reducible exact H) | (have H2_ := (Option.bind_some _ _).symm.trans H; rw [hy616]; with_reducible exact H2_) | (have H2_ := (Option.bind_some _ _).symm.trans H; with_reducible exact H2_) | with_reducible exact H | (rw [hy616]; exact H) | exact H
                  have Ny616 := Aside0.mk hy616
                  clear hy616
                  by_cases c49 : y616.length + l1_1.length < 1954687338268
                  · rw [if_pos c49] at H
                    have LMc49 := Aside0.mk c49
                    clear c49
                    obtain ⟨y619, hy619⟩ : ∃ y_ : List (S63), y_ = (y616 ++ l1_1) := ⟨_, rfl⟩
                    replace H : ((cal_Check.f (Go.bits .or .i64 a0_0 a1_0) y619).bind fun bt622 => (if bt622.1 = 0 then (some (Go.bits .or .i64 a0_0 a1_0, y619, 0)) else (some (0, ([] : List (S63)), bt622.1)))) = some (r1, r2, r3) := by first | (rw [hy619]; with_reducible exact H) | (have H2_ := (Option.bind_some _ _).symm.trans H; rw [hy619]; with_reducible exact H2_) | (have H2_ := (Option.bind_some _ _).symm.trans H; with_reducible exact H2_) | with_reducible exact H | (rw [hy619]; exact H) | exact H
                    have Ny619 := Aside0.mk hy619
                    clear hy619
                    replace H := Option.bind_eq_some_iff.mp H
                    obtain ⟨⟨t622, t623⟩, A500, H⟩ := H
                    replace H : (if t622 = 0 then (some (Go.bits .or .i64 a0_0 a1_0, y619, 0)) else (some (0, ([] : List (S63)), t622))) = some (r1, r2, r3) := H
                    have A50 := Aside0.mk A500
                    clear A500
                    by_cases c51 : t622 = 0
                    · rw [if_pos c51] at H
                      have c51b0 : (t622 == 0) = true := beq_iff_eq.mpr c51
                      have c51b1 : (t622 != 0) = false := bne_eq_false_iff_eq.mpr c51
                      clear c51
                      simp only [Option.some.injEq, Prod.mk.injEq] at H
                      obtain ⟨rfl, rfl, rfl⟩ := H
                      have hnb52 := NB603_604.out
                      have hnc52 := NB604_603.out
                      have hnb53 := NB603_605.out
                      have hnc53 := NB605_603.out
                      have hcz54_0 : wc.cell? ⟨gb603, 0, none⟩ = some (.int .i64 a0_0) := (blk_cell BK603.out 0).trans rfl
                      have hcz54_1 : wc.cell? ⟨gb603, 1, none⟩ = some (.slice A0_1 l0_1.length c0_1) := (blk_cell BK603.out 1).trans rfl
                      have hfz54_0 := blk_frozen BK603.out 0
                      have hfz54_1 := blk_frozen BK603.out 1
                      have hnb55 := NB604_605.out
                      have hnc55 := NB605_604.out
                      have hcz56_0 : wc.cell? ⟨gb604, 0, none⟩ = some (.int .i64 a1_0) := (blk_cell BK604.out 0).trans rfl
                      have hcz56_1 : wc.cell? ⟨gb604, 1, none⟩ = some (.slice A1_1 l1_1.length c1_1) := (blk_cell BK604.out 1).trans rfl
                      have hfz56_0 := blk_frozen BK604.out 0
                      have hfz56_1 := blk_frozen BK604.out 1
                      try go_wp2_with (first | ((with_reducible refine gate_dst (N := 10) rfl ?_); refine box_event ?hg (N := 10) ?hd (cs := #[.int .i64 0, .slice none 0 0]) (t := 24) ?hr ?_; (case hd => rfl); (case hg => rfl); (case hr => first | (go_simp; done) | (go_simp; rfl)); intro gb612 hg w57 hbox hb; have n0_ := Aside0.mk (blk_below (g := gb603) (o := .cells #[.int .i64 a0_0, .slice A0_1 l0_1.length c0_1] 24 (0, 0)) (by (with_reducible repeat (first | refine blk_drewN ?_ _ | refine blk_drew ?_ | refine blk_alloc ?_ _)); exact BK603.out) hb); have n1_ := Aside0.mk (blk_below (g := gb604) (o := .cells #[.int .i64 a1_0, .slice A1_1 l1_1.length c1_1] 24 (0, 0)) (by (with_reducible repeat (first | refine blk_drewN ?_ _ | refine blk_drew ?_ | refine blk_alloc ?_ _)); exact BK604.out) hb); have n2_ := Aside0.mk (blk_below (g := gb605) (o := .cells #[.int .i64 0, .slice none 0 0] 24 (0, 0)) (by (with_reducible repeat (first | refine blk_drewN ?_ _ | refine blk_drew ?_ | refine blk_alloc ?_ _)); exact BK605.out) hb); have n3_ := Aside0.mk (below_step (by repeat (first | (with_reducible first | exact HB.out | apply below_alloc | apply pw_below_drewN | apply below_drew1 | refine below_set ?_ GE603.out | refine below_set ?_ GE604.out | refine below_set ?_ GE605.out) | exact HB.out)) hb); have n4_ := Aside0.mk (hbox); have n5_ := Aside0.mk ((by rw [hg]; exact (below_size (by repeat (first | (with_reducible first | exact HB.out | apply below_alloc | apply pw_below_drewN | apply below_drew1 | refine below_set ?_ GE603.out | refine below_set ?_ GE604.out | refine below_set ?_ GE605.out) | exact HB.out))) : w.heap.size ≤ gb612)); have n6_ := Aside0.mk ((by rw [hg]; exact (below_size (by repeat (first | (with_reducible first | exact HB.out | apply below_alloc | apply pw_below_drewN | apply below_drew1 | refine below_set ?_ GE603.out | refine below_set ?_ GE604.out | refine below_set ?_ GE605.out) | exact HB.out))) : w.heap.size ≤ gb612)); have n7_ := Aside0.mk ((by rw [hg]; exact Nat.ne_of_lt (blk_lt (g := gb603) (o := .cells #[.int .i64 a0_0, .slice A0_1 l0_1.length c0_1] 24 (0, 0)) (by (with_reducible repeat (first | refine blk_drewN ?_ _ | refine blk_drew ?_ | refine blk_alloc ?_ _)); exact BK603.out)) : gb603 ≠ gb612)); have n8_ := Aside0.mk ((by rw [hg]; exact Nat.ne_of_gt (blk_lt (g := gb603) (o := .cells #[.int .i64 a0_0, .slice A0_1 l0_1.length c0_1] 24 (0, 0)) (by (with_reducible repeat (first | refine blk_drewN ?_ _ | refine blk_drew ?_ | refine blk_alloc ?_ _)); exact BK603.out)) : gb612 ≠ gb603)); have n9_ := Aside0.mk ((by rw [hg]; exact Nat.ne_of_lt (blk_lt (g := gb604) (o := .cells #[.int .i64 a1_0, .slice A1_1 l1_1.length c1_1] 24 (0, 0)) (by (with_reducible repeat (first | refine blk_drewN ?_ _ | refine blk_drew ?_ | refine blk_alloc ?_ _)); exact BK604.out)) : gb604 ≠ gb612)); have n10_ := Aside0.mk ((by rw [hg]; exact Nat.ne_of_gt (blk_lt (g := gb604) (o := .cells #[.int .i64 a1_0, .slice A1_1 l1_1.length c1_1] 24 (0, 0)) (by (with_reducible repeat (first | refine blk_drewN ?_ _ | refine blk_drew ?_ | refine blk_alloc ?_ _)); exact BK604.out)) : gb612 ≠ gb604)); have n11_ := Aside0.mk ((by rw [hg]; exact Nat.ne_of_lt (blk_lt (g := gb605) (o := .cells #[.int .i64 0, .slice none 0 0] 24 (0, 0)) (by (with_reducible repeat (first | refine blk_drewN ?_ _ | refine blk_drew ?_ | refine blk_alloc ?_ _)); exact BK605.out)) : gb605 ≠ gb612)); have n12_ := Aside0.mk ((by rw [hg]; exact Nat.ne_of_gt (blk_lt (g := gb605) (o := .cells #[.int .i64 0, .slice none 0 0] 24 (0, 0)) (by (with_reducible repeat (first | refine blk_drewN ?_ _ | refine blk_drew ?_ | refine blk_alloc ?_ _)); exact BK605.out)) : gb612 ≠ gb605)); clear BK603; clear BK604; clear BK605; clear HB; have BK603 := n0_; have BK604 := n1_; have BK605 := n2_; have HB := n3_; have BK612 := n4_; have GW612 := n5_; have GE612 := n6_; have NB603_612 := n7_; have NB612_603 := n8_; have NB604_612 := n9_; have NB612_604 := n10_; have NB605_612 := n11_; have NB612_605 := n12_; clear n0_ n1_ n2_ n3_ n4_ n5_ n6_ n7_ n8_ n9_ n10_ n11_ n12_; clear hb hbox hg; have hnb58 := NB612_603.out; have hnc58 := NB603_612.out; have hnb59 := NB612_604.out; have hnc59 := NB604_612.out; have hnb60 := NB612_605.out; have hnc60 := NB605_612.out; have hcz61_0 : w57.cell? ⟨gb612, 0, none⟩ = some (.int .i64 0) := (blk_cell BK612.out 0).trans rfl; have hcz61_1 : w57.cell? ⟨gb612, 1, none⟩ = some (.slice none 0 0) := (blk_cell BK612.out 1).trans rfl; have hfz61_0 := blk_frozen BK612.out 0; have hfz61_1 := blk_frozen BK612.out 1; have hcz62_0 : w57.cell? ⟨gb603, 0, none⟩ = some (.int .i64 a0_0) := (blk_cell BK603.out 0).trans rfl; have hcz62_1 : w57.cell? ⟨gb603, 1, none⟩ = some (.slice A0_1 l0_1.length c0_1) := (blk_cell BK603.out 1).trans rfl; have hfz62_0 := blk_frozen BK603.out 0; have hfz62_1 := blk_frozen BK603.out 1; have hcz63_0 : w57.cell? ⟨gb604, 0, none⟩ = some (.int .i64 a1_0) := (blk_cell BK604.out 0).trans rfl; have hcz63_1 : w57.cell? ⟨gb604, 1, none⟩ = some (.slice A1_1 l1_1.length c1_1) := (blk_cell BK604.out 1).trans rfl; have hfz63_0 := blk_frozen BK604.out 0; have hfz63_1 := blk_frozen BK604.out 1) | ((with_reducible refine gate_dst (N := 58) rfl ?_); refine Kd.R_make0 k63 _ 63 rfl (N := 58) rfl 22 _ _ rfl ji45 rfl rfl Try.underlying22 (.agg #[(.int .i64 0), (.int .i64 0), (.int .i64 0), (.int .i64 0), (.int .i64 0), (.int .i64 0), (.int .i64 0), (.int .i64 0), (.int .i64 0)]) 72 info63 rfl (by decide) (by omega) z63 (ok := fun _ => True) (okp := fun _ => True) (k63_mkM _ _ _ z63 ) (fun _ hk => hk) trivial (of_decide_eq_true (by first | (with_reducible assumption) | assumption)) (Nat.le_trans (Nat.mul_le_mul_right _ (of_decide_eq_true (by first | (with_reducible assumption) | assumption) : ji45.toNat ≤ 3909374676536)) (by omega)) (Below.refl _ _) (Nat.le_refl _) ?_; intro v614 w64 ho65 hb hg_ hnew_; clear hg_ hnew_; (first | rw [← Ny613.out] at ho65 | (simp only [Int.reduceToNat] at ho65; rw [← Ny613.out] at ho65)); have n0_ := Aside0.mk (Kd.R_lower ho65 (below_size (by repeat (first | (with_reducible first | exact HB.out | apply below_alloc | apply pw_below_drewN | apply below_drew1 | refine below_set ?_ GE603.out | refine below_set ?_ GE604.out | refine below_set ?_ GE605.out | refine below_set ?_ GE612.out) | exact HB.out)))); have n1_ := Aside0.mk (blk_below (g := gb603) (o := .cells #[.int .i64 a0_0, .slice A0_1 l0_1.length c0_1] 24 (0, 0)) (by (with_reducible repeat (first | refine blk_drewN ?_ _ | refine blk_drew ?_ | refine blk_alloc ?_ _)); refine blk_far ?_ NB603_612.out _; (with_reducible repeat (first | refine blk_drewN ?_ _ | refine blk_drew ?_ | refine blk_alloc ?_ _)); refine blk_far ?_ NB603_612.out _; (with_reducible repeat (first | refine blk_drewN ?_ _ | refine blk_drew ?_ | refine blk_alloc ?_ _)); exact BK603.out) hb); have n2_ := Aside0.mk (blk_below (g := gb604) (o := .cells #[.int .i64 a1_0, .slice A1_1 l1_1.length c1_1] 24 (0, 0)) (by (with_reducible repeat (first | refine blk_drewN ?_ _ | refine blk_drew ?_ | refine blk_alloc ?_ _)); refine blk_far ?_ NB604_612.out _; (with_reducible repeat (first | refine blk_drewN ?_ _ | refine blk_drew ?_ | refine blk_alloc ?_ _)); refine blk_far ?_ NB604_612.out _; (with_reducible repeat (first | refine blk_drewN ?_ _ | refine blk_drew ?_ | refine blk_alloc ?_ _)); exact BK604.out) hb); have n3_ := Aside0.mk (blk_below (g := gb605) (o := .cells #[.int .i64 0, .slice none 0 0] 24 (0, 0)) (by (with_reducible repeat (first | refine blk_drewN ?_ _ | refine blk_drew ?_ | refine blk_alloc ?_ _)); refine blk_far ?_ NB605_612.out _; (with_reducible repeat (first | refine blk_drewN ?_ _ | refine blk_drew ?_ | refine blk_alloc ?_ _)); refine blk_far ?_ NB605_612.out _; (with_reducible repeat (first | refine blk_drewN ?_ _ | refine blk_drew ?_ | refine blk_alloc ?_ _)); exact BK605.out) hb); have n4_ := Aside0.mk (blk_below (g := gb612) (o := .cells #[.int .i64 (Go.bits .or .i64 a0_0 a1_0), .slice none 0 0] 24 (0, 0)) (by (with_reducible repeat (first | refine blk_drewN ?_ _ | refine blk_drew ?_ | refine blk_alloc ?_ _)); refine blk_put (cs := #[.int .i64 (Go.bits .or .i64 a0_0 a1_0), .slice none 0 0]) ?_ 1 _ rfl; (with_reducible repeat (first | refine blk_drewN ?_ _ | refine blk_drew ?_ | refine blk_alloc ?_ _)); refine blk_put (cs := #[.int .i64 0, .slice none 0 0]) ?_ 0 _ rfl; (with_reducible repeat (first | refine blk_drewN ?_ _ | refine blk_drew ?_ | refine blk_alloc ?_ _)); exact BK612.out) hb); have n5_ := Aside0.mk (below_step (by repeat (first | (with_reducible first | exact HB.out | apply below_alloc | apply pw_below_drewN | apply below_drew1 | refine below_set ?_ GE603.out | refine below_set ?_ GE604.out | refine below_set ?_ GE605.out | refine below_set ?_ GE612.out) | exact HB.out)) hb); clear BK603; clear BK604; clear BK605; clear BK612; clear HB; have HO615 := n0_; have BK603 := n1_; have BK604 := n2_; have BK605 := n3_; have BK612 := n4_; have HB := n5_; clear n0_ n1_ n2_ n3_ n4_ n5_; clear hb ho65; obtain ⟨Ao66, co66, eo66⟩ := Kd.R_slice HO615.out; subst eo66; have hcz67_0 : w64.cell? ⟨gb612, 0, none⟩ = some (.int .i64 (Go.bits .or .i64 a0_0 a1_0)) := (blk_cell BK612.out 0).trans rfl; have hcz67_1 : w64.cell? ⟨gb612, 1, none⟩ = some (.slice none 0 0) := (blk_cell BK612.out 1).trans rfl; have hfz67_0 := blk_frozen BK612.out 0; have hfz67_1 := blk_frozen BK612.out 1))
                      have n0_ : Aside0 (Kd.R k63 63 (w64.setCell ⟨gb612, 1, none⟩ (.slice Ao66 y613.length co66)) w.heap.size (fun _ => True) (.slice Ao66 y613.length co66) y613) := ⟨by (with_reducible repeat (first | apply Kd.R_alloc | apply Kd.R_drewN | apply Kd.R_drew)); exact Kd.R_mono (Kd.R_far (p := ⟨gb612, 1, none⟩) (Kd.R_types HO615.out BK612.out (by decide)) (fun _ hk => hk.2) (.slice Ao66 y613.length co66)) (fun _ hk => trivial)⟩
                      have n1_ : Aside0 ((w64.setCell ⟨gb612, 1, none⟩ (.slice Ao66 y613.length co66)).heap[gb603]? = some (.cells #[.int .i64 a0_0, .slice A0_1 l0_1.length c0_1] 24 (0, 0))) := ⟨by (with_reducible repeat (first | refine blk_drewN ?_ _ | refine blk_drew ?_ | refine blk_alloc ?_ _)); refine blk_far ?_ NB603_612.out _; (with_reducible repeat (first | refine blk_drewN ?_ _ | refine blk_drew ?_ | refine blk_alloc ?_ _)); exact BK603.out⟩
                      have n2_ : Aside0 ((w64.setCell ⟨gb612, 1, none⟩ (.slice Ao66 y613.length co66)).heap[gb604]? = some (.cells #[.int .i64 a1_0, .slice A1_1 l1_1.length c1_1] 24 (0, 0))) := ⟨by (with_reducible repeat (first | refine blk_drewN ?_ _ | refine blk_drew ?_ | refine blk_alloc ?_ _)); refine blk_far ?_ NB604_612.out _; (with_reducible repeat (first | refine blk_drewN ?_ _ | refine blk_drew ?_ | refine blk_alloc ?_ _)); exact BK604.out⟩
                      have n3_ : Aside0 ((w64.setCell ⟨gb612, 1, none⟩ (.slice Ao66 y613.length co66)).heap[gb605]? = some (.cells #[.int .i64 0, .slice none 0 0] 24 (0, 0))) := ⟨by (with_reducible repeat (first | refine blk_drewN ?_ _ | refine blk_drew ?_ | refine blk_alloc ?_ _)); refine blk_far ?_ NB605_612.out _; (with_reducible repeat (first | refine blk_drewN ?_ _ | refine blk_drew ?_ | refine blk_alloc ?_ _)); exact BK605.out⟩
                      have n4_ : Aside0 ((w64.setCell ⟨gb612, 1, none⟩ (.slice Ao66 y613.length co66)).heap[gb612]? = some (.cells #[.int .i64 (Go.bits .or .i64 a0_0 a1_0), .slice Ao66 y613.length co66] 24 (0, 0))) := ⟨by (with_reducible repeat (first | refine blk_drewN ?_ _ | refine blk_drew ?_ | refine blk_alloc ?_ _)); refine blk_put (cs := #[.int .i64 (Go.bits .or .i64 a0_0 a1_0), .slice none 0 0]) ?_ 1 _ rfl; (with_reducible repeat (first | refine blk_drewN ?_ _ | refine blk_drew ?_ | refine blk_alloc ?_ _)); exact BK612.out⟩
                      have n5_ : Aside0 (Below w.heap.size w (w64.setCell ⟨gb612, 1, none⟩ (.slice Ao66 y613.length co66))) := ⟨by repeat (first | (with_reducible first | exact HB.out | apply below_alloc | apply pw_below_drewN | apply below_drew1 | refine below_set ?_ GE603.out | refine below_set ?_ GE604.out | refine below_set ?_ GE605.out | refine below_set ?_ GE612.out) | exact HB.out)⟩
                      (try clear HO615)
                      (try clear BK603)
                      (try clear BK604)
                      (try clear BK605)
                      (try clear BK612)
                      (try clear HB)
                      generalize (w64.setCell ⟨gb612, 1, none⟩ (.slice Ao66 y613.length co66)) = w68 at n0_ n1_ n2_ n3_ n4_ n5_ ⊢
                      have HO615 := n0_
                      have BK603 := n1_
                      have BK604 := n2_
                      have BK605 := n3_
                      have BK612 := n4_
                      have HB := n5_
                      clear n0_ n1_ n2_ n3_ n4_ n5_
                      have n0_ := Aside0.mk (Kd.R_drew HO615.out)
                      have n1_ := Aside0.mk (blk_drew BK603.out)
                      have n2_ := Aside0.mk (blk_drew BK604.out)
                      have n3_ := Aside0.mk (blk_drew BK605.out)
                      have n4_ := Aside0.mk (blk_drew BK612.out)
                      have n5_ := Aside0.mk (below_drew1 HB.out)
                      clear HO615
                      clear BK603
                      clear BK604
                      clear BK605
                      clear BK612
                      clear HB
                      have HO615 := n0_
                      have BK603 := n1_
                      have BK604 := n2_
                      have BK605 := n3_
                      have BK612 := n4_
                      have HB := n5_
                      clear n0_ n1_ n2_ n3_ n4_ n5_
                      refine start_ (n := 10) (S := fun w' => w'.cell? ⟨gb612, 0, none⟩ = some (.int .i64 (Go.bits .or .i64 a0_0 a1_0)) ∧ w'.cell? ⟨gb612, 1, none⟩ = some (.slice Ao66 y613.length co66) ∧ w'.cell? ⟨gb603, 0, none⟩ = some (.int .i64 a0_0) ∧ w'.cell? ⟨gb603, 1, none⟩ = some (.slice A0_1 l0_1.length c0_1) ∧ w'.cell? ⟨gb604, 0, none⟩ = some (.int .i64 a1_0) ∧ w'.cell? ⟨gb604, 1, none⟩ = some (.slice A1_1 l1_1.length c1_1)) (ds := [9]) #[false, false, false, false, false, false, false, false, false, false] (by kernel_rfl) rfl rfl ⟨(blk_cell BK612.out 0).trans rfl, (blk_cell BK612.out 1).trans rfl, (blk_cell BK603.out 0).trans rfl, (blk_cell BK603.out 1).trans rfl, (blk_cell BK604.out 0).trans rfl, (blk_cell BK604.out 1).trans rfl⟩ (fun hHeld => ?_); refine with_tabW cal_Join.tab11 cal_Join.bits11 (fun HT_ HW_ => ?_)
                      generalize w68.drew = w69 at HO615 BK603 BK604 BK605 BK612 HB hHeld ⊢
                      refine pure_ (i := 0) (N := some 60) (v := ?_) (a' := ?_) #[true, false, false, false, false, false, false, false, false, false] rfl rfl (any_of HT_.out (by kernel_rfl)) (fun _ _ _ h => h) (Or.inl ⟨by rfl, ?_⟩) ?_ ?_
                      rotate_left
                      · intro w'
                        go_simp
                        with_reducible rfl
                      rotate_left
                      · simp only [Act.put, List.setIfInBounds_toArray, List.set_cons_zero, List.set_cons_succ, i64_w, i32_w]
                        rfl
                      refine pure_ (i := 2) (N := some 62) (v := ?_) (a' := ?_) #[true, false, true, false, false, false, false, false, false, false] rfl rfl (any_of HT_.out (by kernel_rfl)) (fun _ _ _ h => h) (Or.inl ⟨by rfl, ?_⟩) ?_ ?_
                      rotate_left
                      · intro w'
                        go_simp
                        with_reducible rfl
                      rotate_left
                      · simp only [Act.put, List.setIfInBounds_toArray, List.set_cons_zero, List.set_cons_succ, i64_w, i32_w]
                        rfl
                      refine pure_ (i := 5) (N := some 65) (v := ?_) (a' := ?_) #[true, false, true, false, false, true, false, false, false, false] rfl rfl (any_of HT_.out (by kernel_rfl)) (fun _ _ _ h => h) (Or.inl ⟨by rfl, ?_⟩) ?_ ?_
                      rotate_left
                      · intro w'
                        go_simp
                        with_reducible rfl
                      rotate_left
                      · simp only [Act.put, List.setIfInBounds_toArray, List.set_cons_zero, List.set_cons_succ, i64_w, i32_w]
                        rfl
                      refine take_ (i := 1) (N := some 61) (v := ?_) (a' := ?_) #[true, true, true, false, false, true, false, false, false, false] rfl rfl (take_ofW HT_.out HW_.out (by kernel_rfl)) (fun _ _ _ h => h) (Or.inl ⟨by rfl, ?_⟩) hHeld ?_ ?_
                      rotate_left
                      · rintro w' ⟨s0, s1, s2, s3, s4, s5⟩
                        go_simp
                        with_reducible rfl
                      rotate_left
                      · simp only [Act.put, List.setIfInBounds_toArray, List.set_cons_zero, List.set_cons_succ, i64_w, i32_w]
                        rfl
                      refine take_ (i := 3) (N := some 63) (v := ?_) (a' := ?_) #[true, true, true, true, false, true, false, false, false, false] rfl rfl (take_ofW HT_.out HW_.out (by kernel_rfl)) (fun _ _ _ h => h) (Or.inl ⟨by rfl, ?_⟩) hHeld ?_ ?_
                      rotate_left
                      · rintro w' ⟨s0, s1, s2, s3, s4, s5⟩
                        go_simp
                        with_reducible rfl
                      rotate_left
                      · simp only [Act.put, List.setIfInBounds_toArray, List.set_cons_zero, List.set_cons_succ, i64_w, i32_w]
                        rfl
                      refine take_ (i := 6) (N := some 66) (v := ?_) (a' := ?_) #[true, true, true, true, false, true, true, false, false, false] rfl rfl (take_ofW HT_.out HW_.out (by kernel_rfl)) (fun _ _ _ h => h) (Or.inl ⟨by rfl, ?_⟩) hHeld ?_ ?_
                      rotate_left
                      · rintro w' ⟨s0, s1, s2, s3, s4, s5⟩
                        go_simp
                        with_reducible rfl
                      rotate_left
                      · simp only [Act.put, List.setIfInBounds_toArray, List.set_cons_zero, List.set_cons_succ, i64_w, i32_w]
                        rfl
                      refine one_ (i := 4) (N := some 64) #[true, true, true, true, true, true, true, false, false, false] rfl rfl (one_of HT_.out (by kernel_rfl)) (by decide) (fun K hK => ?_)
                      refine Kd.R_append_rows_step k63 (w0 := w) w.heap.size (by rfl) (.tmp 61) (.tmp 63) 22 63 (.agg #[(.int .i64 0), (.int .i64 0), (.int .i64 0), (.int .i64 0), (.int .i64 0), (.int .i64 0), (.int .i64 0), (.int .i64 0), (.int .i64 0)]) 72 rfl Try.underlying22 info63 rfl (by decide) (by omega) (.slice Ao66 y613.length co66) y613 l0_1 _ _ _ (fun _ => True) (fun _ => False) rfl rfl ?aO ?aR (fun _ _ h => h) (fun _ h => h.elim) ?aF ?aB ?aS ?aL ?_
                      (case aR => repeat (first | exact (Kd.C_below HR0_1.out HB.out) | (with_reducible refine Kd.C_alloc ?_ _) | (with_reducible refine Kd.C_drewN ?_ _) | (with_reducible refine Kd.C_drew ?_)))
                      (case aB => exact (by repeat (first | (with_reducible first | exact HB.out | apply below_alloc | apply pw_below_drewN | apply below_drew1 | refine below_set ?_ GE603.out | refine below_set ?_ GE604.out | refine below_set ?_ GE605.out | refine below_set ?_ GE612.out) | exact HB.out)))
                      (case aF => exact (fun _ _ => trivial))
                      (case aO => exact (by (with_reducible repeat (first | apply Kd.R_alloc | apply Kd.R_drewN | apply Kd.R_drew)); exact HO615.out))
                      (case aS => exact (below_size (by repeat (first | (with_reducible first | exact HB.out | apply below_alloc | apply pw_below_drewN | apply below_drew1 | refine below_set ?_ GE603.out | refine below_set ?_ GE604.out | refine below_set ?_ GE605.out | refine below_set ?_ GE612.out) | exact HB.out))))
                      (case aL => have := LMc48.out; omega)
                      intro v617 w70 ho hb hg hat
                      rw [← Ny616.out] at ho
                      have n0_ := Aside0.mk (blk_grown (g := gb603) (o := .cells #[.int .i64 a0_0, .slice A0_1 l0_1.length c0_1] 24 (0, 0)) (by (with_reducible repeat (first | refine blk_drewN ?_ _ | refine blk_drew ?_ | refine blk_alloc ?_ _)); exact BK603.out) hg (Kd.R_ne HO615.out BK603.out (by decide)))
                      have n1_ := Aside0.mk (blk_grown (g := gb604) (o := .cells #[.int .i64 a1_0, .slice A1_1 l1_1.length c1_1] 24 (0, 0)) (by (with_reducible repeat (first | refine blk_drewN ?_ _ | refine blk_drew ?_ | refine blk_alloc ?_ _)); exact BK604.out) hg (Kd.R_ne HO615.out BK604.out (by decide)))
                      have n2_ := Aside0.mk (blk_grown (g := gb605) (o := .cells #[.int .i64 0, .slice none 0 0] 24 (0, 0)) (by (with_reducible repeat (first | refine blk_drewN ?_ _ | refine blk_drew ?_ | refine blk_alloc ?_ _)); exact BK605.out) hg (Kd.R_ne HO615.out BK605.out (by decide)))
                      have n3_ := Aside0.mk (blk_grown (g := gb612) (o := .cells #[.int .i64 (Go.bits .or .i64 a0_0 a1_0), .slice Ao66 y613.length co66] 24 (0, 0)) (by (with_reducible repeat (first | refine blk_drewN ?_ _ | refine blk_drew ?_ | refine blk_alloc ?_ _)); exact BK612.out) hg (Kd.R_ne HO615.out BK612.out (by decide)))
                      have n4_ := Aside0.mk (hb)
                      have n5_ := Aside0.mk (ho)
                      clear BK603
                      clear BK604
                      clear BK605
                      clear BK612
                      clear HB
                      clear HO615
                      have BK603 := n0_
                      have BK604 := n1_
                      have BK605 := n2_
                      have BK612 := n3_
                      have HB := n4_
                      have HO618 := n5_
                      clear n0_ n1_ n2_ n3_ n4_ n5_
                      clear ho hb hg hat
                      refine hK.out _ _ ⟨(blk_cell BK612.out 0).trans rfl, (blk_cell BK612.out 1).trans rfl, (blk_cell BK603.out 0).trans rfl, (blk_cell BK603.out 1).trans rfl, (blk_cell BK604.out 0).trans rfl, (blk_cell BK604.out 1).trans rfl⟩ (fun hHeld => ?_)
                      clear hK K
                      refine norm_ (a' := ?_) ?_ ?_
                      rotate_left
                      · show Act.put _ (some 64) _ = _
                        simp only [Act.put, List.setIfInBounds_toArray, List.set_cons_zero, List.set_cons_succ, i64_w, i32_w]
                        rfl
                      refine one_ (i := 7) (N := some 67) #[true, true, true, true, true, true, true, true, false, false] rfl rfl (one_of HT_.out (by kernel_rfl)) (by decide) (fun K hK => ?_)
                      refine Kd.R_append_rows_step k63 (w0 := w) w.heap.size (by rfl) (.tmp 64) (.tmp 66) 22 63 (.agg #[(.int .i64 0), (.int .i64 0), (.int .i64 0), (.int .i64 0), (.int .i64 0), (.int .i64 0), (.int .i64 0), (.int .i64 0), (.int .i64 0)]) 72 rfl Try.underlying22 info63 rfl (by decide) (by omega) v617 y616 l1_1 _ _ _ (fun _ => True) (fun _ => False) rfl rfl ?aO ?aR (fun _ _ h => h) (fun _ h => h.elim) ?aF ?aB ?aS ?aL ?_
                      (case aR => repeat (first | exact (Kd.C_below HR1_1.out HB.out) | (with_reducible refine Kd.C_alloc ?_ _) | (with_reducible refine Kd.C_drewN ?_ _) | (with_reducible refine Kd.C_drew ?_)))
                      (case aB => exact (by repeat (first | (with_reducible first | exact HB.out | apply below_alloc | apply pw_below_drewN | apply below_drew1 | refine below_set ?_ GE603.out | refine below_set ?_ GE604.out | refine below_set ?_ GE605.out | refine below_set ?_ GE612.out) | exact HB.out)))
                      (case aF => exact (fun _ _ => trivial))
                      (case aO => exact (by (with_reducible repeat (first | apply Kd.R_alloc | apply Kd.R_drewN | apply Kd.R_drew)); exact HO618.out))
                      (case aS => exact (below_size (by repeat (first | (with_reducible first | exact HB.out | apply below_alloc | apply pw_below_drewN | apply below_drew1 | refine below_set ?_ GE603.out | refine below_set ?_ GE604.out | refine below_set ?_ GE605.out | refine below_set ?_ GE612.out) | exact HB.out))))
                      (case aL => have := LMc49.out; omega)
                      intro v620 w71 ho hb hg hat
                      rw [← Ny619.out] at ho
                      have n0_ := Aside0.mk (blk_grown (g := gb603) (o := .cells #[.int .i64 a0_0, .slice A0_1 l0_1.length c0_1] 24 (0, 0)) (by (with_reducible repeat (first | refine blk_drewN ?_ _ | refine blk_drew ?_ | refine blk_alloc ?_ _)); exact BK603.out) hg (Kd.R_ne HO618.out BK603.out (by decide)))
                      have n1_ := Aside0.mk (blk_grown (g := gb604) (o := .cells #[.int .i64 a1_0, .slice A1_1 l1_1.length c1_1] 24 (0, 0)) (by (with_reducible repeat (first | refine blk_drewN ?_ _ | refine blk_drew ?_ | refine blk_alloc ?_ _)); exact BK604.out) hg (Kd.R_ne HO618.out BK604.out (by decide)))
                      have n2_ := Aside0.mk (blk_grown (g := gb605) (o := .cells #[.int .i64 0, .slice none 0 0] 24 (0, 0)) (by (with_reducible repeat (first | refine blk_drewN ?_ _ | refine blk_drew ?_ | refine blk_alloc ?_ _)); exact BK605.out) hg (Kd.R_ne HO618.out BK605.out (by decide)))
                      have n3_ := Aside0.mk (blk_grown (g := gb612) (o := .cells #[.int .i64 (Go.bits .or .i64 a0_0 a1_0), .slice Ao66 y613.length co66] 24 (0, 0)) (by (with_reducible repeat (first | refine blk_drewN ?_ _ | refine blk_drew ?_ | refine blk_alloc ?_ _)); exact BK612.out) hg (Kd.R_ne HO618.out BK612.out (by decide)))
                      have n4_ := Aside0.mk (hb)
                      have n5_ := Aside0.mk (ho)
                      clear BK603
                      clear BK604
                      clear BK605
                      clear BK612
                      clear HB
                      clear HO618
                      have BK603 := n0_
                      have BK604 := n1_
                      have BK605 := n2_
                      have BK612 := n3_
                      have HB := n4_
                      have HO621 := n5_
                      clear n0_ n1_ n2_ n3_ n4_ n5_
                      clear ho hb hg hat
                      obtain ⟨Ao72, co72, eo72⟩ := Kd.R_slice HO621.out
                      (first | subst eo72 | (injection eo72 with f1_ f2_ f3_; have f4_ := f1_.symm; have f5_ := f3_.symm; clear f1_ f2_ f3_; subst f4_; subst f5_))
                      refine hK.out _ _ ⟨(blk_cell BK612.out 0).trans rfl, (blk_cell BK612.out 1).trans rfl, (blk_cell BK603.out 0).trans rfl, (blk_cell BK603.out 1).trans rfl, (blk_cell BK604.out 0).trans rfl, (blk_cell BK604.out 1).trans rfl⟩ (fun hHeld => ?_)
                      clear hK K
                      refine norm_ (a' := ?_) ?_ ?_
                      rotate_left
                      · show Act.put _ (some 67) _ = _
                        simp only [Act.put, List.setIfInBounds_toArray, List.set_cons_zero, List.set_cons_succ, i64_w, i32_w]
                        rfl
                      refine pure_ (i := 8) (N := some 68) (v := ?_) (a' := ?_) #[true, true, true, true, true, true, true, true, true, false] rfl rfl (any_of HT_.out (by kernel_rfl)) (fun _ _ _ h => h) (Or.inl ⟨by rfl, ?_⟩) ?_ ?_
                      rotate_left
                      · intro w'
                        go_simp
                        with_reducible rfl
                      rotate_left
                      · simp only [Act.put, List.setIfInBounds_toArray, List.set_cons_zero, List.set_cons_succ, i64_w, i32_w]
                        rfl
                      refine last_ (i := 9) (N := none) #[true, true, true, true, true, true, true, true, true, true] rfl rfl (one_of HT_.out (by kernel_rfl)) (by decide) (fun K hK => ?_)
                      have hs73 : w71.cell? ⟨gb612, 1, none⟩ = some (.slice Ao66 y613.length co66) := (blk_cell BK612.out 1).trans rfl
                      have hfs73 := blk_frozen BK612.out 1
                      have hns73_0 := NB603_612.out
                      have hns73_1 := NB604_612.out
                      have hns73_2 := NB605_612.out
                      have hms73_0 := NB612_603.out
                      have hms73_1 := NB612_604.out
                      have hms73_2 := NB612_605.out
                      refine skip_ (w1 := ?_) (by rfl) rfl ?_ ?_
                      rotate_left
                      · go_simp
                        rfl
                      refine hK.out _ _ ?_
                      clear hK K
                      refine done_ (done_of HT_.out (by kernel_rfl)) ?_
                      have hcz74_0 : w71.cell? ⟨gb612, 0, none⟩ = some (.int .i64 (Go.bits .or .i64 a0_0 a1_0)) := (blk_cell BK612.out 0).trans rfl
                      have hcz74_1 : w71.cell? ⟨gb612, 1, none⟩ = some (.slice Ao66 y613.length co66) := (blk_cell BK612.out 1).trans rfl
                      have hfz74_0 := blk_frozen BK612.out 0
                      have hfz74_1 := blk_frozen BK612.out 1
                      try go_wp2_with (first | ((with_reducible refine gate_callee (f := 44) rfl ?_); refine goesL_ (some 71) rfl rfl Try.func44 (by kernel_rfl) rfl #[.agg #[.int .i64 (Go.bits .or .i64 a0_0 a1_0), .slice Ao72 y619.length co72]] rfl (by (try simp only [List.map_toArray, List.map_cons, List.map_nil]); first | done | rfl | (simp only [List.length_drop, List.length_take]; rfl)) ?_; (with_reducible refine (cal_Check.calls (Go.bits .or .i64 a0_0 a1_0) _ _ y619 t622 t623 _ ?side1 ?side2 A50.out).mono ?_); (case side1 => refine (Kd.R_reads' (e := 63) (base := w.heap.size) (ok := fun k_ => True) (n := y619.length) (c := co72) ?_).2.2; exact (by (with_reducible repeat (first | apply Kd.R_alloc | apply Kd.R_drewN | apply Kd.R_drew)); exact (Kd.R_mono (Kd.R_far (p := ⟨gb612, 1, none⟩) (Kd.R_types HO621.out BK612.out (by decide)) (fun _ hk => hk.2) (.slice Ao72 y619.length co72)) (fun _ h_ => h_.1)))); (case side2 => exact (Kd.R_reads' HO621.out).2.1); rintro e w75 ⟨rfl, hb⟩; refine ⟨_, rfl, ?_⟩; have n0_ := Aside0.mk (Kd.R_below (by (with_reducible repeat (first | apply Kd.R_alloc | apply Kd.R_drewN | apply Kd.R_drew)); exact (Kd.R_mono (Kd.R_far (p := ⟨gb612, 1, none⟩) (Kd.R_types HO621.out BK612.out (by decide)) (fun _ hk => hk.2) (.slice Ao72 y619.length co72)) (fun _ h_ => h_.1))) hb); have n1_ := Aside0.mk (blk_below (g := gb603) (o := .cells #[.int .i64 a0_0, .slice A0_1 l0_1.length c0_1] 24 (0, 0)) (by (with_reducible repeat (first | refine blk_drewN ?_ _ | refine blk_drew ?_ | refine blk_alloc ?_ _)); refine blk_far ?_ NB603_612.out _; (with_reducible repeat (first | refine blk_drewN ?_ _ | refine blk_drew ?_ | refine blk_alloc ?_ _)); exact BK603.out) hb); have n2_ := Aside0.mk (blk_below (g := gb604) (o := .cells #[.int .i64 a1_0, .slice A1_1 l1_1.length c1_1] 24 (0, 0)) (by (with_reducible repeat (first | refine blk_drewN ?_ _ | refine blk_drew ?_ | refine blk_alloc ?_ _)); refine blk_far ?_ NB604_612.out _; (with_reducible repeat (first | refine blk_drewN ?_ _ | refine blk_drew ?_ | refine blk_alloc ?_ _)); exact BK604.out) hb); have n3_ := Aside0.mk (blk_below (g := gb605) (o := .cells #[.int .i64 0, .slice none 0 0] 24 (0, 0)) (by (with_reducible repeat (first | refine blk_drewN ?_ _ | refine blk_drew ?_ | refine blk_alloc ?_ _)); refine blk_far ?_ NB605_612.out _; (with_reducible repeat (first | refine blk_drewN ?_ _ | refine blk_drew ?_ | refine blk_alloc ?_ _)); exact BK605.out) hb); have n4_ := Aside0.mk (blk_below (g := gb612) (o := .cells #[.int .i64 (Go.bits .or .i64 a0_0 a1_0), .slice Ao72 y619.length co72] 24 (0, 0)) (by (with_reducible repeat (first | refine blk_drewN ?_ _ | refine blk_drew ?_ | refine blk_alloc ?_ _)); refine blk_put (cs := #[.int .i64 (Go.bits .or .i64 a0_0 a1_0), .slice Ao66 y613.length co66]) ?_ 1 _ rfl; (with_reducible repeat (first | refine blk_drewN ?_ _ | refine blk_drew ?_ | refine blk_alloc ?_ _)); exact BK612.out) hb); have n5_ := Aside0.mk (below_step (by repeat (first | (with_reducible first | exact HB.out | apply below_alloc | apply pw_below_drewN | apply below_drew1 | refine below_set ?_ GE603.out | refine below_set ?_ GE604.out | refine below_set ?_ GE605.out | refine below_set ?_ GE612.out) | exact HB.out)) hb); clear HO621; clear BK603; clear BK604; clear BK605; clear BK612; clear HB; have HO621 := n0_; have BK603 := n1_; have BK604 := n2_; have BK605 := n3_; have BK612 := n4_; have HB := n5_; clear n0_ n1_ n2_ n3_ n4_ n5_; (try clear hb); (try clear hb2); (try clear hk); (try clear hi); have hcz76_0 : w75.cell? ⟨gb612, 0, none⟩ = some (.int .i64 (Go.bits .or .i64 a0_0 a1_0)) := (blk_cell BK612.out 0).trans rfl; have hcz76_1 : w75.cell? ⟨gb612, 1, none⟩ = some (.slice Ao72 y619.length co72) := (blk_cell BK612.out 1).trans rfl; have hfz76_0 := blk_frozen BK612.out 0; have hfz76_1 := blk_frozen BK612.out 1; have hcz77_0 : w75.cell? ⟨gb605, 0, none⟩ = some (.int .i64 0) := (blk_cell BK605.out 0).trans rfl; have hcz77_1 : w75.cell? ⟨gb605, 1, none⟩ = some (.slice none 0 0) := (blk_cell BK605.out 1).trans rfl; have hfz77_0 := blk_frozen BK605.out 0; have hfz77_1 := blk_frozen BK605.out 1))
                      refine bodyPost_ret (results_ct rfl _ _ gb605 24 #[.int .i64 (Go.bits .or .i64 a0_0 a1_0), .slice Ao72 y619.length co72] (0, 0) _ rfl (by (with_reducible repeat (first | refine blk_drewN ?_ _ | refine blk_drew ?_ | refine blk_alloc ?_ _)); refine blk_put (cs := #[.int .i64 (Go.bits .or .i64 a0_0 a1_0), .slice none 0 0]) ?_ 1 _ rfl; (with_reducible repeat (first | refine blk_drewN ?_ _ | refine blk_drew ?_ | refine blk_alloc ?_ _)); refine blk_put (cs := #[.int .i64 0, .slice none 0 0]) ?_ 0 _ rfl; (with_reducible repeat (first | refine blk_drewN ?_ _ | refine blk_drew ?_ | refine blk_alloc ?_ _)); exact BK605.out) Try.underlying24 rfl (by kernel_rfl)) rfl ?_
                      exact ⟨_, by first | rfl | (simp [errW_none, errW_some] <;> rfl) | (simp only [← hji45]; first | rfl | (simp [errW_none, errW_some] <;> rfl)) | (simp [*, errW_none, errW_some] <;> rfl), by (with_reducible repeat (first | apply Kd.R_alloc | apply Kd.R_drewN | apply Kd.R_drew)); exact Kd.R_mono (Kd.R_far (p := ⟨gb605, 1, none⟩) (Kd.R_far (p := ⟨gb605, 0, none⟩) (Kd.R_types HO621.out BK605.out (by decide)) (fun _ hk => hk.2) (.int .i64 (Go.bits .or .i64 a0_0 a1_0))) (fun _ hk => hk.2) (.slice Ao72 y619.length co72)) (fun _ hk => trivial), by repeat (first | (with_reducible first | exact HB.out | apply below_alloc | apply pw_below_drewN | apply below_drew1 | refine below_set ?_ GE603.out | refine below_set ?_ GE604.out | refine below_set ?_ GE605.out | refine below_set ?_ GE612.out) | exact HB.out)⟩
                    · rw [if_neg c51] at H
                      have c51b0 : (t622 == 0) = false := beq_eq_false_iff_ne.mpr c51
                      have c51b1 : (t622 != 0) = true := bne_iff_ne.mpr c51
                      simp only [Option.some.injEq, Prod.mk.injEq] at H
                      obtain ⟨rfl, rfl, rfl⟩ := H
                      have hnb78 := NB603_604.out
                      have hnc78 := NB604_603.out
                      have hnb79 := NB603_605.out
                      have hnc79 := NB605_603.out
                      have hcz80_0 : wc.cell? ⟨gb603, 0, none⟩ = some (.int .i64 a0_0) := (blk_cell BK603.out 0).trans rfl
                      have hcz80_1 : wc.cell? ⟨gb603, 1, none⟩ = some (.slice A0_1 l0_1.length c0_1) := (blk_cell BK603.out 1).trans rfl
                      have hfz80_0 := blk_frozen BK603.out 0
                      have hfz80_1 := blk_frozen BK603.out 1
                      have hnb81 := NB604_605.out
                      have hnc81 := NB605_604.out
                      have hcz82_0 : wc.cell? ⟨gb604, 0, none⟩ = some (.int .i64 a1_0) := (blk_cell BK604.out 0).trans rfl
                      have hcz82_1 : wc.cell? ⟨gb604, 1, none⟩ = some (.slice A1_1 l1_1.length c1_1) := (blk_cell BK604.out 1).trans rfl
                      have hfz82_0 := blk_frozen BK604.out 0
                      have hfz82_1 := blk_frozen BK604.out 1
                      try go_wp2_with (first | ((with_reducible refine gate_dst (N := 10) rfl ?_); refine box_event ?hg (N := 10) ?hd (cs := #[.int .i64 0, .slice none 0 0]) (t := 24) ?hr ?_; (case hd => rfl); (case hg => rfl); (case hr => first | (go_simp; done) | (go_simp; rfl)); intro gb612 hg w83 hbox hb; have n0_ := Aside0.mk (blk_below (g := gb603) (o := .cells #[.int .i64 a0_0, .slice A0_1 l0_1.length c0_1] 24 (0, 0)) (by (with_reducible repeat (first | refine blk_drewN ?_ _ | refine blk_drew ?_ | refine blk_alloc ?_ _)); exact BK603.out) hb); have n1_ := Aside0.mk (blk_below (g := gb604) (o := .cells #[.int .i64 a1_0, .slice A1_1 l1_1.length c1_1] 24 (0, 0)) (by (with_reducible repeat (first | refine blk_drewN ?_ _ | refine blk_drew ?_ | refine blk_alloc ?_ _)); exact BK604.out) hb); have n2_ := Aside0.mk (blk_below (g := gb605) (o := .cells #[.int .i64 0, .slice none 0 0] 24 (0, 0)) (by (with_reducible repeat (first | refine blk_drewN ?_ _ | refine blk_drew ?_ | refine blk_alloc ?_ _)); exact BK605.out) hb); have n3_ := Aside0.mk (below_step (by repeat (first | (with_reducible first | exact HB.out | apply below_alloc | apply pw_below_drewN | apply below_drew1 | refine below_set ?_ GE603.out | refine below_set ?_ GE604.out | refine below_set ?_ GE605.out) | exact HB.out)) hb); have n4_ := Aside0.mk (hbox); have n5_ := Aside0.mk ((by rw [hg]; exact (below_size (by repeat (first | (with_reducible first | exact HB.out | apply below_alloc | apply pw_below_drewN | apply below_drew1 | refine below_set ?_ GE603.out | refine below_set ?_ GE604.out | refine below_set ?_ GE605.out) | exact HB.out))) : w.heap.size ≤ gb612)); have n6_ := Aside0.mk ((by rw [hg]; exact (below_size (by repeat (first | (with_reducible first | exact HB.out | apply below_alloc | apply pw_below_drewN | apply below_drew1 | refine below_set ?_ GE603.out | refine below_set ?_ GE604.out | refine below_set ?_ GE605.out) | exact HB.out))) : w.heap.size ≤ gb612)); have n7_ := Aside0.mk ((by rw [hg]; exact Nat.ne_of_lt (blk_lt (g := gb603) (o := .cells #[.int .i64 a0_0, .slice A0_1 l0_1.length c0_1] 24 (0, 0)) (by (with_reducible repeat (first | refine blk_drewN ?_ _ | refine blk_drew ?_ | refine blk_alloc ?_ _)); exact BK603.out)) : gb603 ≠ gb612)); have n8_ := Aside0.mk ((by rw [hg]; exact Nat.ne_of_gt (blk_lt (g := gb603) (o := .cells #[.int .i64 a0_0, .slice A0_1 l0_1.length c0_1] 24 (0, 0)) (by (with_reducible repeat (first | refine blk_drewN ?_ _ | refine blk_drew ?_ | refine blk_alloc ?_ _)); exact BK603.out)) : gb612 ≠ gb603)); have n9_ := Aside0.mk ((by rw [hg]; exact Nat.ne_of_lt (blk_lt (g := gb604) (o := .cells #[.int .i64 a1_0, .slice A1_1 l1_1.length c1_1] 24 (0, 0)) (by (with_reducible repeat (first | refine blk_drewN ?_ _ | refine blk_drew ?_ | refine blk_alloc ?_ _)); exact BK604.out)) : gb604 ≠ gb612)); have n10_ := Aside0.mk ((by rw [hg]; exact Nat.ne_of_gt (blk_lt (g := gb604) (o := .cells #[.int .i64 a1_0, .slice A1_1 l1_1.length c1_1] 24 (0, 0)) (by (with_reducible repeat (first | refine blk_drewN ?_ _ | refine blk_drew ?_ | refine blk_alloc ?_ _)); exact BK604.out)) : gb612 ≠ gb604)); have n11_ := Aside0.mk ((by rw [hg]; exact Nat.ne_of_lt (blk_lt (g := gb605) (o := .cells #[.int .i64 0, .slice none 0 0] 24 (0, 0)) (by (with_reducible repeat (first | refine blk_drewN ?_ _ | refine blk_drew ?_ | refine blk_alloc ?_ _)); exact BK605.out)) : gb605 ≠ gb612)); have n12_ := Aside0.mk ((by rw [hg]; exact Nat.ne_of_gt (blk_lt (g := gb605) (o := .cells #[.int .i64 0, .slice none 0 0] 24 (0, 0)) (by (with_reducible repeat (first | refine blk_drewN ?_ _ | refine blk_drew ?_ | refine blk_alloc ?_ _)); exact BK605.out)) : gb612 ≠ gb605)); clear BK603; clear BK604; clear BK605; clear HB; have BK603 := n0_; have BK604 := n1_; have BK605 := n2_; have HB := n3_; have BK612 := n4_; have GW612 := n5_; have GE612 := n6_; have NB603_612 := n7_; have NB612_603 := n8_; have NB604_612 := n9_; have NB612_604 := n10_; have NB605_612 := n11_; have NB612_605 := n12_; clear n0_ n1_ n2_ n3_ n4_ n5_ n6_ n7_ n8_ n9_ n10_ n11_ n12_; clear hb hbox hg; have hnb84 := NB612_603.out; have hnc84 := NB603_612.out; have hnb85 := NB612_604.out; have hnc85 := NB604_612.out; have hnb86 := NB612_605.out; have hnc86 := NB605_612.out; have hcz87_0 : w83.cell? ⟨gb612, 0, none⟩ = some (.int .i64 0) := (blk_cell BK612.out 0).trans rfl; have hcz87_1 : w83.cell? ⟨gb612, 1, none⟩ = some (.slice none 0 0) := (blk_cell BK612.out 1).trans rfl; have hfz87_0 := blk_frozen BK612.out 0; have hfz87_1 := blk_frozen BK612.out 1; have hcz88_0 : w83.cell? ⟨gb603, 0, none⟩ = some (.int .i64 a0_0) := (blk_cell BK603.out 0).trans rfl; have hcz88_1 : w83.cell? ⟨gb603, 1, none⟩ = some (.slice A0_1 l0_1.length c0_1) := (blk_cell BK603.out 1).trans rfl; have hfz88_0 := blk_frozen BK603.out 0; have hfz88_1 := blk_frozen BK603.out 1; have hcz89_0 : w83.cell? ⟨gb604, 0, none⟩ = some (.int .i64 a1_0) := (blk_cell BK604.out 0).trans rfl; have hcz89_1 : w83.cell? ⟨gb604, 1, none⟩ = some (.slice A1_1 l1_1.length c1_1) := (blk_cell BK604.out 1).trans rfl; have hfz89_0 := blk_frozen BK604.out 0; have hfz89_1 := blk_frozen BK604.out 1) | ((with_reducible refine gate_dst (N := 58) rfl ?_); refine Kd.R_make0 k63 _ 63 rfl (N := 58) rfl 22 _ _ rfl ji45 rfl rfl Try.underlying22 (.agg #[(.int .i64 0), (.int .i64 0), (.int .i64 0), (.int .i64 0), (.int .i64 0), (.int .i64 0), (.int .i64 0), (.int .i64 0), (.int .i64 0)]) 72 info63 rfl (by decide) (by omega) z63 (ok := fun _ => True) (okp := fun _ => True) (k63_mkM _ _ _ z63 ) (fun _ hk => hk) trivial (of_decide_eq_true (by first | (with_reducible assumption) | assumption)) (Nat.le_trans (Nat.mul_le_mul_right _ (of_decide_eq_true (by first | (with_reducible assumption) | assumption) : ji45.toNat ≤ 3909374676536)) (by omega)) (Below.refl _ _) (Nat.le_refl _) ?_; intro v614 w90 ho91 hb hg_ hnew_; clear hg_ hnew_; (first | rw [← Ny613.out] at ho91 | (simp only [Int.reduceToNat] at ho91; rw [← Ny613.out] at ho91)); have n0_ := Aside0.mk (Kd.R_lower ho91 (below_size (by repeat (first | (with_reducible first | exact HB.out | apply below_alloc | apply pw_below_drewN | apply below_drew1 | refine below_set ?_ GE603.out | refine below_set ?_ GE604.out | refine below_set ?_ GE605.out | refine below_set ?_ GE612.out) | exact HB.out)))); have n1_ := Aside0.mk (blk_below (g := gb603) (o := .cells #[.int .i64 a0_0, .slice A0_1 l0_1.length c0_1] 24 (0, 0)) (by (with_reducible repeat (first | refine blk_drewN ?_ _ | refine blk_drew ?_ | refine blk_alloc ?_ _)); refine blk_far ?_ NB603_612.out _; (with_reducible repeat (first | refine blk_drewN ?_ _ | refine blk_drew ?_ | refine blk_alloc ?_ _)); refine blk_far ?_ NB603_612.out _; (with_reducible repeat (first | refine blk_drewN ?_ _ | refine blk_drew ?_ | refine blk_alloc ?_ _)); exact BK603.out) hb); have n2_ := Aside0.mk (blk_below (g := gb604) (o := .cells #[.int .i64 a1_0, .slice A1_1 l1_1.length c1_1] 24 (0, 0)) (by (with_reducible repeat (first | refine blk_drewN ?_ _ | refine blk_drew ?_ | refine blk_alloc ?_ _)); refine blk_far ?_ NB604_612.out _; (with_reducible repeat (first | refine blk_drewN ?_ _ | refine blk_drew ?_ | refine blk_alloc ?_ _)); refine blk_far ?_ NB604_612.out _; (with_reducible repeat (first | refine blk_drewN ?_ _ | refine blk_drew ?_ | refine blk_alloc ?_ _)); exact BK604.out) hb); have n3_ := Aside0.mk (blk_below (g := gb605) (o := .cells #[.int .i64 0, .slice none 0 0] 24 (0, 0)) (by (with_reducible repeat (first | refine blk_drewN ?_ _ | refine blk_drew ?_ | refine blk_alloc ?_ _)); refine blk_far ?_ NB605_612.out _; (with_reducible repeat (first | refine blk_drewN ?_ _ | refine blk_drew ?_ | refine blk_alloc ?_ _)); refine blk_far ?_ NB605_612.out _; (with_reducible repeat (first | refine blk_drewN ?_ _ | refine blk_drew ?_ | refine blk_alloc ?_ _)); exact BK605.out) hb); have n4_ := Aside0.mk (blk_below (g := gb612) (o := .cells #[.int .i64 (Go.bits .or .i64 a0_0 a1_0), .slice none 0 0] 24 (0, 0)) (by (with_reducible repeat (first | refine blk_drewN ?_ _ | refine blk_drew ?_ | refine blk_alloc ?_ _)); refine blk_put (cs := #[.int .i64 (Go.bits .or .i64 a0_0 a1_0), .slice none 0 0]) ?_ 1 _ rfl; (with_reducible repeat (first | refine blk_drewN ?_ _ | refine blk_drew ?_ | refine blk_alloc ?_ _)); refine blk_put (cs := #[.int .i64 0, .slice none 0 0]) ?_ 0 _ rfl; (with_reducible repeat (first | refine blk_drewN ?_ _ | refine blk_drew ?_ | refine blk_alloc ?_ _)); exact BK612.out) hb); have n5_ := Aside0.mk (below_step (by repeat (first | (with_reducible first | exact HB.out | apply below_alloc | apply pw_below_drewN | apply below_drew1 | refine below_set ?_ GE603.out | refine below_set ?_ GE604.out | refine below_set ?_ GE605.out | refine below_set ?_ GE612.out) | exact HB.out)) hb); clear BK603; clear BK604; clear BK605; clear BK612; clear HB; have HO615 := n0_; have BK603 := n1_; have BK604 := n2_; have BK605 := n3_; have BK612 := n4_; have HB := n5_; clear n0_ n1_ n2_ n3_ n4_ n5_; clear hb ho91; obtain ⟨Ao92, co92, eo92⟩ := Kd.R_slice HO615.out; subst eo92; have hcz93_0 : w90.cell? ⟨gb612, 0, none⟩ = some (.int .i64 (Go.bits .or .i64 a0_0 a1_0)) := (blk_cell BK612.out 0).trans rfl; have hcz93_1 : w90.cell? ⟨gb612, 1, none⟩ = some (.slice none 0 0) := (blk_cell BK612.out 1).trans rfl; have hfz93_0 := blk_frozen BK612.out 0; have hfz93_1 := blk_frozen BK612.out 1))
                      have n0_ : Aside0 (Kd.R k63 63 (w90.setCell ⟨gb612, 1, none⟩ (.slice Ao92 y613.length co92)) w.heap.size (fun _ => True) (.slice Ao92 y613.length co92) y613) := ⟨by (with_reducible repeat (first | apply Kd.R_alloc | apply Kd.R_drewN | apply Kd.R_drew)); exact Kd.R_mono (Kd.R_far (p := ⟨gb612, 1, none⟩) (Kd.R_types HO615.out BK612.out (by decide)) (fun _ hk => hk.2) (.slice Ao92 y613.length co92)) (fun _ hk => trivial)⟩
                      have n1_ : Aside0 ((w90.setCell ⟨gb612, 1, none⟩ (.slice Ao92 y613.length co92)).heap[gb603]? = some (.cells #[.int .i64 a0_0, .slice A0_1 l0_1.length c0_1] 24 (0, 0))) := ⟨by (with_reducible repeat (first | refine blk_drewN ?_ _ | refine blk_drew ?_ | refine blk_alloc ?_ _)); refine blk_far ?_ NB603_612.out _; (with_reducible repeat (first | refine blk_drewN ?_ _ | refine blk_drew ?_ | refine blk_alloc ?_ _)); exact BK603.out⟩
                      have n2_ : Aside0 ((w90.setCell ⟨gb612, 1, none⟩ (.slice Ao92 y613.length co92)).heap[gb604]? = some (.cells #[.int .i64 a1_0, .slice A1_1 l1_1.length c1_1] 24 (0, 0))) := ⟨by (with_reducible repeat (first | refine blk_drewN ?_ _ | refine blk_drew ?_ | refine blk_alloc ?_ _)); refine blk_far ?_ NB604_612.out _; (with_reducible repeat (first | refine blk_drewN ?_ _ | refine blk_drew ?_ | refine blk_alloc ?_ _)); exact BK604.out⟩
                      have n3_ : Aside0 ((w90.setCell ⟨gb612, 1, none⟩ (.slice Ao92 y613.length co92)).heap[gb605]? = some (.cells #[.int .i64 0, .slice none 0 0] 24 (0, 0))) := ⟨by (with_reducible repeat (first | refine blk_drewN ?_ _ | refine blk_drew ?_ | refine blk_alloc ?_ _)); refine blk_far ?_ NB605_612.out _; (with_reducible repeat (first | refine blk_drewN ?_ _ | refine blk_drew ?_ | refine blk_alloc ?_ _)); exact BK605.out⟩
                      have n4_ : Aside0 ((w90.setCell ⟨gb612, 1, none⟩ (.slice Ao92 y613.length co92)).heap[gb612]? = some (.cells #[.int .i64 (Go.bits .or .i64 a0_0 a1_0), .slice Ao92 y613.length co92] 24 (0, 0))) := ⟨by (with_reducible repeat (first | refine blk_drewN ?_ _ | refine blk_drew ?_ | refine blk_alloc ?_ _)); refine blk_put (cs := #[.int .i64 (Go.bits .or .i64 a0_0 a1_0), .slice none 0 0]) ?_ 1 _ rfl; (with_reducible repeat (first | refine blk_drewN ?_ _ | refine blk_drew ?_ | refine blk_alloc ?_ _)); exact BK612.out⟩
                      have n5_ : Aside0 (Below w.heap.size w (w90.setCell ⟨gb612, 1, none⟩ (.slice Ao92 y613.length co92))) := ⟨by repeat (first | (with_reducible first | exact HB.out | apply below_alloc | apply pw_below_drewN | apply below_drew1 | refine below_set ?_ GE603.out | refine below_set ?_ GE604.out | refine below_set ?_ GE605.out | refine below_set ?_ GE612.out) | exact HB.out)⟩
                      (try clear HO615)
                      (try clear BK603)
                      (try clear BK604)
                      (try clear BK605)
                      (try clear BK612)
                      (try clear HB)
                      generalize (w90.setCell ⟨gb612, 1, none⟩ (.slice Ao92 y613.length co92)) = w94 at n0_ n1_ n2_ n3_ n4_ n5_ ⊢
                      have HO615 := n0_
                      have BK603 := n1_
                      have BK604 := n2_
                      have BK605 := n3_
                      have BK612 := n4_
                      have HB := n5_
                      clear n0_ n1_ n2_ n3_ n4_ n5_
                      have n0_ := Aside0.mk (Kd.R_drew HO615.out)
                      have n1_ := Aside0.mk (blk_drew BK603.out)
                      have n2_ := Aside0.mk (blk_drew BK604.out)
                      have n3_ := Aside0.mk (blk_drew BK605.out)
                      have n4_ := Aside0.mk (blk_drew BK612.out)
                      have n5_ := Aside0.mk (below_drew1 HB.out)
                      clear HO615
                      clear BK603
                      clear BK604
                      clear BK605
                      clear BK612
                      clear HB
                      have HO615 := n0_
                      have BK603 := n1_
                      have BK604 := n2_
                      have BK605 := n3_
                      have BK612 := n4_
                      have HB := n5_
                      clear n0_ n1_ n2_ n3_ n4_ n5_
                      refine start_ (n := 10) (S := fun w' => w'.cell? ⟨gb612, 0, none⟩ = some (.int .i64 (Go.bits .or .i64 a0_0 a1_0)) ∧ w'.cell? ⟨gb612, 1, none⟩ = some (.slice Ao92 y613.length co92) ∧ w'.cell? ⟨gb603, 0, none⟩ = some (.int .i64 a0_0) ∧ w'.cell? ⟨gb603, 1, none⟩ = some (.slice A0_1 l0_1.length c0_1) ∧ w'.cell? ⟨gb604, 0, none⟩ = some (.int .i64 a1_0) ∧ w'.cell? ⟨gb604, 1, none⟩ = some (.slice A1_1 l1_1.length c1_1)) (ds := [9]) #[false, false, false, false, false, false, false, false, false, false] (by kernel_rfl) rfl rfl ⟨(blk_cell BK612.out 0).trans rfl, (blk_cell BK612.out 1).trans rfl, (blk_cell BK603.out 0).trans rfl, (blk_cell BK603.out 1).trans rfl, (blk_cell BK604.out 0).trans rfl, (blk_cell BK604.out 1).trans rfl⟩ (fun hHeld => ?_); refine with_tabW cal_Join.tab11 cal_Join.bits11 (fun HT_ HW_ => ?_)
                      generalize w94.drew = w95 at HO615 BK603 BK604 BK605 BK612 HB hHeld ⊢
                      refine pure_ (i := 0) (N := some 60) (v := ?_) (a' := ?_) #[true, false, false, false, false, false, false, false, false, false] rfl rfl (any_of HT_.out (by kernel_rfl)) (fun _ _ _ h => h) (Or.inl ⟨by rfl, ?_⟩) ?_ ?_
                      rotate_left
                      · intro w'
                        go_simp
                        with_reducible rfl
                      rotate_left
                      · simp only [Act.put, List.setIfInBounds_toArray, List.set_cons_zero, List.set_cons_succ, i64_w, i32_w]
                        rfl
                      refine pure_ (i := 2) (N := some 62) (v := ?_) (a' := ?_) #[true, false, true, false, false, false, false, false, false, false] rfl rfl (any_of HT_.out (by kernel_rfl)) (fun _ _ _ h => h) (Or.inl ⟨by rfl, ?_⟩) ?_ ?_
                      rotate_left
                      · intro w'
                        go_simp
                        with_reducible rfl
                      rotate_left
                      · simp only [Act.put, List.setIfInBounds_toArray, List.set_cons_zero, List.set_cons_succ, i64_w, i32_w]
                        rfl
                      refine pure_ (i := 5) (N := some 65) (v := ?_) (a' := ?_) #[true, false, true, false, false, true, false, false, false, false] rfl rfl (any_of HT_.out (by kernel_rfl)) (fun _ _ _ h => h) (Or.inl ⟨by rfl, ?_⟩) ?_ ?_
                      rotate_left
                      · intro w'
                        go_simp
                        with_reducible rfl
                      rotate_left
                      · simp only [Act.put, List.setIfInBounds_toArray, List.set_cons_zero, List.set_cons_succ, i64_w, i32_w]
                        rfl
                      refine take_ (i := 1) (N := some 61) (v := ?_) (a' := ?_) #[true, true, true, false, false, true, false, false, false, false] rfl rfl (take_ofW HT_.out HW_.out (by kernel_rfl)) (fun _ _ _ h => h) (Or.inl ⟨by rfl, ?_⟩) hHeld ?_ ?_
                      rotate_left
                      · rintro w' ⟨s0, s1, s2, s3, s4, s5⟩
                        go_simp
                        with_reducible rfl
                      rotate_left
                      · simp only [Act.put, List.setIfInBounds_toArray, List.set_cons_zero, List.set_cons_succ, i64_w, i32_w]
                        rfl
                      refine take_ (i := 3) (N := some 63) (v := ?_) (a' := ?_) #[true, true, true, true, false, true, false, false, false, false] rfl rfl (take_ofW HT_.out HW_.out (by kernel_rfl)) (fun _ _ _ h => h) (Or.inl ⟨by rfl, ?_⟩) hHeld ?_ ?_
                      rotate_left
                      · rintro w' ⟨s0, s1, s2, s3, s4, s5⟩
                        go_simp
                        with_reducible rfl
                      rotate_left
                      · simp only [Act.put, List.setIfInBounds_toArray, List.set_cons_zero, List.set_cons_succ, i64_w, i32_w]
                        rfl
                      refine take_ (i := 6) (N := some 66) (v := ?_) (a' := ?_) #[true, true, true, true, false, true, true, false, false, false] rfl rfl (take_ofW HT_.out HW_.out (by kernel_rfl)) (fun _ _ _ h => h) (Or.inl ⟨by rfl, ?_⟩) hHeld ?_ ?_
                      rotate_left
                      · rintro w' ⟨s0, s1, s2, s3, s4, s5⟩
                        go_simp
                        with_reducible rfl
                      rotate_left
                      · simp only [Act.put, List.setIfInBounds_toArray, List.set_cons_zero, List.set_cons_succ, i64_w, i32_w]
                        rfl
                      refine one_ (i := 4) (N := some 64) #[true, true, true, true, true, true, true, false, false, false] rfl rfl (one_of HT_.out (by kernel_rfl)) (by decide) (fun K hK => ?_)
                      refine Kd.R_append_rows_step k63 (w0 := w) w.heap.size (by rfl) (.tmp 61) (.tmp 63) 22 63 (.agg #[(.int .i64 0), (.int .i64 0), (.int .i64 0), (.int .i64 0), (.int .i64 0), (.int .i64 0), (.int .i64 0), (.int .i64 0), (.int .i64 0)]) 72 rfl Try.underlying22 info63 rfl (by decide) (by omega) (.slice Ao92 y613.length co92) y613 l0_1 _ _ _ (fun _ => True) (fun _ => False) rfl rfl ?aO ?aR (fun _ _ h => h) (fun _ h => h.elim) ?aF ?aB ?aS ?aL ?_
                      (case aR => repeat (first | exact (Kd.C_below HR0_1.out HB.out) | (with_reducible refine Kd.C_alloc ?_ _) | (with_reducible refine Kd.C_drewN ?_ _) | (with_reducible refine Kd.C_drew ?_)))
                      (case aB => exact (by repeat (first | (with_reducible first | exact HB.out | apply below_alloc | apply pw_below_drewN | apply below_drew1 | refine below_set ?_ GE603.out | refine below_set ?_ GE604.out | refine below_set ?_ GE605.out | refine below_set ?_ GE612.out) | exact HB.out)))
                      (case aF => exact (fun _ _ => trivial))
                      (case aO => exact (by (with_reducible repeat (first | apply Kd.R_alloc | apply Kd.R_drewN | apply Kd.R_drew)); exact HO615.out))
                      (case aS => exact (below_size (by repeat (first | (with_reducible first | exact HB.out | apply below_alloc | apply pw_below_drewN | apply below_drew1 | refine below_set ?_ GE603.out | refine below_set ?_ GE604.out | refine below_set ?_ GE605.out | refine below_set ?_ GE612.out) | exact HB.out))))
                      (case aL => have := LMc48.out; omega)
                      intro v617 w96 ho hb hg hat
                      rw [← Ny616.out] at ho
                      have n0_ := Aside0.mk (blk_grown (g := gb603) (o := .cells #[.int .i64 a0_0, .slice A0_1 l0_1.length c0_1] 24 (0, 0)) (by (with_reducible repeat (first | refine blk_drewN ?_ _ | refine blk_drew ?_ | refine blk_alloc ?_ _)); exact BK603.out) hg (Kd.R_ne HO615.out BK603.out (by decide)))
                      have n1_ := Aside0.mk (blk_grown (g := gb604) (o := .cells #[.int .i64 a1_0, .slice A1_1 l1_1.length c1_1] 24 (0, 0)) (by (with_reducible repeat (first | refine blk_drewN ?_ _ | refine blk_drew ?_ | refine blk_alloc ?_ _)); exact BK604.out) hg (Kd.R_ne HO615.out BK604.out (by decide)))
                      have n2_ := Aside0.mk (blk_grown (g := gb605) (o := .cells #[.int .i64 0, .slice none 0 0] 24 (0, 0)) (by (with_reducible repeat (first | refine blk_drewN ?_ _ | refine blk_drew ?_ | refine blk_alloc ?_ _)); exact BK605.out) hg (Kd.R_ne HO615.out BK605.out (by decide)))
                      have n3_ := Aside0.mk (blk_grown (g := gb612) (o := .cells #[.int .i64 (Go.bits .or .i64 a0_0 a1_0), .slice Ao92 y613.length co92] 24 (0, 0)) (by (with_reducible repeat (first | refine blk_drewN ?_ _ | refine blk_drew ?_ | refine blk_alloc ?_ _)); exact BK612.out) hg (Kd.R_ne HO615.out BK612.out (by decide)))
                      have n4_ := Aside0.mk (hb)
                      have n5_ := Aside0.mk (ho)
                      clear BK603
                      clear BK604
                      clear BK605
                      clear BK612
                      clear HB
                      clear HO615
                      have BK603 := n0_
                      have BK604 := n1_
                      have BK605 := n2_
                      have BK612 := n3_
                      have HB := n4_
                      have HO618 := n5_
                      clear n0_ n1_ n2_ n3_ n4_ n5_
                      clear ho hb hg hat
                      refine hK.out _ _ ⟨(blk_cell BK612.out 0).trans rfl, (blk_cell BK612.out 1).trans rfl, (blk_cell BK603.out 0).trans rfl, (blk_cell BK603.out 1).trans rfl, (blk_cell BK604.out 0).trans rfl, (blk_cell BK604.out 1).trans rfl⟩ (fun hHeld => ?_)
                      clear hK K
                      refine norm_ (a' := ?_) ?_ ?_
                      rotate_left
                      · show Act.put _ (some 64) _ = _
                        simp only [Act.put, List.setIfInBounds_toArray, List.set_cons_zero, List.set_cons_succ, i64_w, i32_w]
                        rfl
                      refine one_ (i := 7) (N := some 67) #[true, true, true, true, true, true, true, true, false, false] rfl rfl (one_of HT_.out (by kernel_rfl)) (by decide) (fun K hK => ?_)
                      refine Kd.R_append_rows_step k63 (w0 := w) w.heap.size (by rfl) (.tmp 64) (.tmp 66) 22 63 (.agg #[(.int .i64 0), (.int .i64 0), (.int .i64 0), (.int .i64 0), (.int .i64 0), (.int .i64 0), (.int .i64 0), (.int .i64 0), (.int .i64 0)]) 72 rfl Try.underlying22 info63 rfl (by decide) (by omega) v617 y616 l1_1 _ _ _ (fun _ => True) (fun _ => False) rfl rfl ?aO ?aR (fun _ _ h => h) (fun _ h => h.elim) ?aF ?aB ?aS ?aL ?_
                      (case aR => repeat (first | exact (Kd.C_below HR1_1.out HB.out) | (with_reducible refine Kd.C_alloc ?_ _) | (with_reducible refine Kd.C_drewN ?_ _) | (with_reducible refine Kd.C_drew ?_)))
                      (case aB => exact (by repeat (first | (with_reducible first | exact HB.out | apply below_alloc | apply pw_below_drewN | apply below_drew1 | refine below_set ?_ GE603.out | refine below_set ?_ GE604.out | refine below_set ?_ GE605.out | refine below_set ?_ GE612.out) | exact HB.out)))
                      (case aF => exact (fun _ _ => trivial))
                      (case aO => exact (by (with_reducible repeat (first | apply Kd.R_alloc | apply Kd.R_drewN | apply Kd.R_drew)); exact HO618.out))
                      (case aS => exact (below_size (by repeat (first | (with_reducible first | exact HB.out | apply below_alloc | apply pw_below_drewN | apply below_drew1 | refine below_set ?_ GE603.out | refine below_set ?_ GE604.out | refine below_set ?_ GE605.out | refine below_set ?_ GE612.out) | exact HB.out))))
                      (case aL => have := LMc49.out; omega)
                      intro v620 w97 ho hb hg hat
                      rw [← Ny619.out] at ho
                      have n0_ := Aside0.mk (blk_grown (g := gb603) (o := .cells #[.int .i64 a0_0, .slice A0_1 l0_1.length c0_1] 24 (0, 0)) (by (with_reducible repeat (first | refine blk_drewN ?_ _ | refine blk_drew ?_ | refine blk_alloc ?_ _)); exact BK603.out) hg (Kd.R_ne HO618.out BK603.out (by decide)))
                      have n1_ := Aside0.mk (blk_grown (g := gb604) (o := .cells #[.int .i64 a1_0, .slice A1_1 l1_1.length c1_1] 24 (0, 0)) (by (with_reducible repeat (first | refine blk_drewN ?_ _ | refine blk_drew ?_ | refine blk_alloc ?_ _)); exact BK604.out) hg (Kd.R_ne HO618.out BK604.out (by decide)))
                      have n2_ := Aside0.mk (blk_grown (g := gb605) (o := .cells #[.int .i64 0, .slice none 0 0] 24 (0, 0)) (by (with_reducible repeat (first | refine blk_drewN ?_ _ | refine blk_drew ?_ | refine blk_alloc ?_ _)); exact BK605.out) hg (Kd.R_ne HO618.out BK605.out (by decide)))
                      have n3_ := Aside0.mk (blk_grown (g := gb612) (o := .cells #[.int .i64 (Go.bits .or .i64 a0_0 a1_0), .slice Ao92 y613.length co92] 24 (0, 0)) (by (with_reducible repeat (first | refine blk_drewN ?_ _ | refine blk_drew ?_ | refine blk_alloc ?_ _)); exact BK612.out) hg (Kd.R_ne HO618.out BK612.out (by decide)))
                      have n4_ := Aside0.mk (hb)
                      have n5_ := Aside0.mk (ho)
                      clear BK603
                      clear BK604
                      clear BK605
                      clear BK612
                      clear HB
                      clear HO618
                      have BK603 := n0_
                      have BK604 := n1_
                      have BK605 := n2_
                      have BK612 := n3_
                      have HB := n4_
                      have HO621 := n5_
                      clear n0_ n1_ n2_ n3_ n4_ n5_
                      clear ho hb hg hat
                      obtain ⟨Ao98, co98, eo98⟩ := Kd.R_slice HO621.out
                      (first | subst eo98 | (injection eo98 with f1_ f2_ f3_; have f4_ := f1_.symm; have f5_ := f3_.symm; clear f1_ f2_ f3_; subst f4_; subst f5_))
                      refine hK.out _ _ ⟨(blk_cell BK612.out 0).trans rfl, (blk_cell BK612.out 1).trans rfl, (blk_cell BK603.out 0).trans rfl, (blk_cell BK603.out 1).trans rfl, (blk_cell BK604.out 0).trans rfl, (blk_cell BK604.out 1).trans rfl⟩ (fun hHeld => ?_)
                      clear hK K
                      refine norm_ (a' := ?_) ?_ ?_
                      rotate_left
                      · show Act.put _ (some 67) _ = _
                        simp only [Act.put, List.setIfInBounds_toArray, List.set_cons_zero, List.set_cons_succ, i64_w, i32_w]
                        rfl
                      refine pure_ (i := 8) (N := some 68) (v := ?_) (a' := ?_) #[true, true, true, true, true, true, true, true, true, false] rfl rfl (any_of HT_.out (by kernel_rfl)) (fun _ _ _ h => h) (Or.inl ⟨by rfl, ?_⟩) ?_ ?_
                      rotate_left
                      · intro w'
                        go_simp
                        with_reducible rfl
                      rotate_left
                      · simp only [Act.put, List.setIfInBounds_toArray, List.set_cons_zero, List.set_cons_succ, i64_w, i32_w]
                        rfl
                      refine last_ (i := 9) (N := none) #[true, true, true, true, true, true, true, true, true, true] rfl rfl (one_of HT_.out (by kernel_rfl)) (by decide) (fun K hK => ?_)
                      have hs99 : w97.cell? ⟨gb612, 1, none⟩ = some (.slice Ao92 y613.length co92) := (blk_cell BK612.out 1).trans rfl
                      have hfs99 := blk_frozen BK612.out 1
                      have hns99_0 := NB603_612.out
                      have hns99_1 := NB604_612.out
                      have hns99_2 := NB605_612.out
                      have hms99_0 := NB612_603.out
                      have hms99_1 := NB612_604.out
                      have hms99_2 := NB612_605.out
                      refine skip_ (w1 := ?_) (by rfl) rfl ?_ ?_
                      rotate_left
                      · go_simp
                        rfl
                      refine hK.out _ _ ?_
                      clear hK K
                      refine done_ (done_of HT_.out (by kernel_rfl)) ?_
                      have hcz100_0 : w97.cell? ⟨gb612, 0, none⟩ = some (.int .i64 (Go.bits .or .i64 a0_0 a1_0)) := (blk_cell BK612.out 0).trans rfl
                      have hcz100_1 : w97.cell? ⟨gb612, 1, none⟩ = some (.slice Ao92 y613.length co92) := (blk_cell BK612.out 1).trans rfl
                      have hfz100_0 := blk_frozen BK612.out 0
                      have hfz100_1 := blk_frozen BK612.out 1
                      try go_wp2_with (first | ((with_reducible refine gate_callee (f := 44) rfl ?_); refine goesL_ (some 71) rfl rfl Try.func44 (by kernel_rfl) rfl #[.agg #[.int .i64 (Go.bits .or .i64 a0_0 a1_0), .slice Ao98 y619.length co98]] rfl (by (try simp only [List.map_toArray, List.map_cons, List.map_nil]); first | done | rfl | (simp only [List.length_drop, List.length_take]; rfl)) ?_; (with_reducible refine (cal_Check.calls (Go.bits .or .i64 a0_0 a1_0) _ _ y619 t622 t623 _ ?side1 ?side2 A50.out).mono ?_); (case side1 => refine (Kd.R_reads' (e := 63) (base := w.heap.size) (ok := fun k_ => True) (n := y619.length) (c := co98) ?_).2.2; exact (by (with_reducible repeat (first | apply Kd.R_alloc | apply Kd.R_drewN | apply Kd.R_drew)); exact (Kd.R_mono (Kd.R_far (p := ⟨gb612, 1, none⟩) (Kd.R_types HO621.out BK612.out (by decide)) (fun _ hk => hk.2) (.slice Ao98 y619.length co98)) (fun _ h_ => h_.1)))); (case side2 => exact (Kd.R_reads' HO621.out).2.1); rintro e w101 ⟨rfl, hb⟩; refine ⟨_, rfl, ?_⟩; have n0_ := Aside0.mk (Kd.R_below (by (with_reducible repeat (first | apply Kd.R_alloc | apply Kd.R_drewN | apply Kd.R_drew)); exact (Kd.R_mono (Kd.R_far (p := ⟨gb612, 1, none⟩) (Kd.R_types HO621.out BK612.out (by decide)) (fun _ hk => hk.2) (.slice Ao98 y619.length co98)) (fun _ h_ => h_.1))) hb); have n1_ := Aside0.mk (blk_below (g := gb603) (o := .cells #[.int .i64 a0_0, .slice A0_1 l0_1.length c0_1] 24 (0, 0)) (by (with_reducible repeat (first | refine blk_drewN ?_ _ | refine blk_drew ?_ | refine blk_alloc ?_ _)); refine blk_far ?_ NB603_612.out _; (with_reducible repeat (first | refine blk_drewN ?_ _ | refine blk_drew ?_ | refine blk_alloc ?_ _)); exact BK603.out) hb); have n2_ := Aside0.mk (blk_below (g := gb604) (o := .cells #[.int .i64 a1_0, .slice A1_1 l1_1.length c1_1] 24 (0, 0)) (by (with_reducible repeat (first | refine blk_drewN ?_ _ | refine blk_drew ?_ | refine blk_alloc ?_ _)); refine blk_far ?_ NB604_612.out _; (with_reducible repeat (first | refine blk_drewN ?_ _ | refine blk_drew ?_ | refine blk_alloc ?_ _)); exact BK604.out) hb); have n3_ := Aside0.mk (blk_below (g := gb605) (o := .cells #[.int .i64 0, .slice none 0 0] 24 (0, 0)) (by (with_reducible repeat (first | refine blk_drewN ?_ _ | refine blk_drew ?_ | refine blk_alloc ?_ _)); refine blk_far ?_ NB605_612.out _; (with_reducible repeat (first | refine blk_drewN ?_ _ | refine blk_drew ?_ | refine blk_alloc ?_ _)); exact BK605.out) hb); have n4_ := Aside0.mk (blk_below (g := gb612) (o := .cells #[.int .i64 (Go.bits .or .i64 a0_0 a1_0), .slice Ao98 y619.length co98] 24 (0, 0)) (by (with_reducible repeat (first | refine blk_drewN ?_ _ | refine blk_drew ?_ | refine blk_alloc ?_ _)); refine blk_put (cs := #[.int .i64 (Go.bits .or .i64 a0_0 a1_0), .slice Ao92 y613.length co92]) ?_ 1 _ rfl; (with_reducible repeat (first | refine blk_drewN ?_ _ | refine blk_drew ?_ | refine blk_alloc ?_ _)); exact BK612.out) hb); have n5_ := Aside0.mk (below_step (by repeat (first | (with_reducible first | exact HB.out | apply below_alloc | apply pw_below_drewN | apply below_drew1 | refine below_set ?_ GE603.out | refine below_set ?_ GE604.out | refine below_set ?_ GE605.out | refine below_set ?_ GE612.out) | exact HB.out)) hb); clear HO621; clear BK603; clear BK604; clear BK605; clear BK612; clear HB; have HO621 := n0_; have BK603 := n1_; have BK604 := n2_; have BK605 := n3_; have BK612 := n4_; have HB := n5_; clear n0_ n1_ n2_ n3_ n4_ n5_; (try clear hb); (try clear hb2); (try clear hk); (try clear hi); have hcz102_0 : w101.cell? ⟨gb605, 0, none⟩ = some (.int .i64 0) := (blk_cell BK605.out 0).trans rfl; have hcz102_1 : w101.cell? ⟨gb605, 1, none⟩ = some (.slice none 0 0) := (blk_cell BK605.out 1).trans rfl; have hfz102_0 := blk_frozen BK605.out 0; have hfz102_1 := blk_frozen BK605.out 1))
                      refine bodyPost_ret (results_ct rfl _ _ gb605 24 #[.int .i64 0, .slice none 0 0] (0, 0) _ rfl (by (with_reducible repeat (first | refine blk_drewN ?_ _ | refine blk_drew ?_ | refine blk_alloc ?_ _)); refine blk_put (cs := #[.int .i64 0, .slice none 0 0]) ?_ 1 _ rfl; (with_reducible repeat (first | refine blk_drewN ?_ _ | refine blk_drew ?_ | refine blk_alloc ?_ _)); refine blk_put (cs := #[.int .i64 0, .slice none 0 0]) ?_ 0 _ rfl; (with_reducible repeat (first | refine blk_drewN ?_ _ | refine blk_drew ?_ | refine blk_alloc ?_ _)); exact BK605.out) Try.underlying24 rfl (by kernel_rfl)) rfl ?_
                      exact ⟨_, by first | rfl | (simp [errW_none, errW_some] <;> rfl) | (simp only [← hji45]; first | rfl | (simp [errW_none, errW_some] <;> rfl)) | (simp [*, errW_none, errW_some] <;> rfl), by first | exact Kd.R_nil _ _ _ _ _ | exact Kd.N_nil _ _ _ _ _ | exact Kd.V_nil _ _ _ _ _ | exact Kd.Q_nil _ _ _ _ _ | exact Kd.S_nil _ _ _ _ _, by repeat (first | (with_reducible first | exact HB.out | apply below_alloc | apply pw_below_drewN | apply below_drew1 | refine below_set ?_ GE603.out | refine below_set ?_ GE604.out | refine below_set ?_ GE605.out | refine below_set ?_ GE612.out) | exact HB.out)⟩
                  · rw [if_neg c49] at H
                    exact absurd H (by simp)
                · rw [if_neg c48] at H
                  exact absurd H (by simp)
              · rw [if_neg c47] at H
                exact absurd H (by simp)
            · rw [if_neg c46] at H
              exact absurd H (by simp)
    · rw [if_neg c6] at H
      have c6b0 : (t608 == 0) = false := beq_eq_false_iff_ne.mpr c6
      have c6b1 : (t608 != 0) = true := bne_iff_ne.mpr c6
      simp only [Option.some.injEq, Prod.mk.injEq] at H
      obtain ⟨rfl, rfl, rfl⟩ := H
      go_enter Try.func46, Try.ntmps46
      go_wp2_with (first | ((with_reducible refine gate_dst (N := 2) rfl ?_); refine box_event ?hg (N := 2) ?hd (cs := #[.int .i64 a0_0, .slice A0_1 l0_1.length c0_1]) (t := 24) ?hr ?_; (case hd => rfl); (case hg => rfl); (case hr => first | (go_simp; done) | (go_simp; rfl)); intro gb603 hg w103 hbox hb; have n0_ := Aside0.mk (below_step (by repeat (first | (with_reducible first | exact HB.out | apply below_alloc | apply pw_below_drewN | apply below_drew1) | exact HB.out)) hb); have n1_ := Aside0.mk (hbox); have n2_ := Aside0.mk ((by rw [hg]; exact (below_size (by repeat (first | (with_reducible first | exact HB.out | apply below_alloc | apply pw_below_drewN | apply below_drew1) | exact HB.out))) : w.heap.size ≤ gb603)); have n3_ := Aside0.mk ((by rw [hg]; exact (below_size (by repeat (first | (with_reducible first | exact HB.out | apply below_alloc | apply pw_below_drewN | apply below_drew1) | exact HB.out))) : w.heap.size ≤ gb603)); clear HB; have HB := n0_; have BK603 := n1_; have GW603 := n2_; have GE603 := n3_; clear n0_ n1_ n2_ n3_; clear hb hbox hg) | ((with_reducible refine gate_dst (N := 3) rfl ?_); refine box_event ?hg (N := 3) ?hd (cs := #[.int .i64 a1_0, .slice A1_1 l1_1.length c1_1]) (t := 24) ?hr ?_; (case hd => rfl); (case hg => rfl); (case hr => first | (go_simp; done) | (go_simp; rfl)); intro gb604 hg w104 hbox hb; have n0_ := Aside0.mk (blk_below (g := gb603) (o := .cells #[.int .i64 a0_0, .slice A0_1 l0_1.length c0_1] 24 (0, 0)) (by (with_reducible repeat (first | refine blk_drewN ?_ _ | refine blk_drew ?_ | refine blk_alloc ?_ _)); exact BK603.out) hb); have n1_ := Aside0.mk (below_step (by repeat (first | (with_reducible first | exact HB.out | apply below_alloc | apply pw_below_drewN | apply below_drew1 | refine below_set ?_ GE603.out) | exact HB.out)) hb); have n2_ := Aside0.mk (hbox); have n3_ := Aside0.mk ((by rw [hg]; exact (below_size (by repeat (first | (with_reducible first | exact HB.out | apply below_alloc | apply pw_below_drewN | apply below_drew1 | refine below_set ?_ GE603.out) | exact HB.out))) : w.heap.size ≤ gb604)); have n4_ := Aside0.mk ((by rw [hg]; exact (below_size (by repeat (first | (with_reducible first | exact HB.out | apply below_alloc | apply pw_below_drewN | apply below_drew1 | refine below_set ?_ GE603.out) | exact HB.out))) : w.heap.size ≤ gb604)); have n5_ := Aside0.mk ((by rw [hg]; exact Nat.ne_of_lt (blk_lt (g := gb603) (o := .cells #[.int .i64 a0_0, .slice A0_1 l0_1.length c0_1] 24 (0, 0)) (by (with_reducible repeat (first | refine blk_drewN ?_ _ | refine blk_drew ?_ | refine blk_alloc ?_ _)); exact BK603.out)) : gb603 ≠ gb604)); have n6_ := Aside0.mk ((by rw [hg]; exact Nat.ne_of_gt (blk_lt (g := gb603) (o := .cells #[.int .i64 a0_0, .slice A0_1 l0_1.length c0_1] 24 (0, 0)) (by (with_reducible repeat (first | refine blk_drewN ?_ _ | refine blk_drew ?_ | refine blk_alloc ?_ _)); exact BK603.out)) : gb604 ≠ gb603)); clear BK603; clear HB; have BK603 := n0_; have HB := n1_; have BK604 := n2_; have GW604 := n3_; have GE604 := n4_; have NB603_604 := n5_; have NB604_603 := n6_; clear n0_ n1_ n2_ n3_ n4_ n5_ n6_; clear hb hbox hg) | ((with_reducible refine gate_dst (N := 4) rfl ?_); refine box_event ?hg (N := 4) ?hd (cs := #[.int .i64 0, .slice none 0 0]) (t := 24) ?hr ?_; (case hd => rfl); (case hg => rfl); (case hr => first | (go_simp; done) | (go_simp; rfl)); intro gb605 hg w105 hbox hb; have n0_ := Aside0.mk (blk_below (g := gb603) (o := .cells #[.int .i64 a0_0, .slice A0_1 l0_1.length c0_1] 24 (0, 0)) (by (with_reducible repeat (first | refine blk_drewN ?_ _ | refine blk_drew ?_ | refine blk_alloc ?_ _)); exact BK603.out) hb); have n1_ := Aside0.mk (blk_below (g := gb604) (o := .cells #[.int .i64 a1_0, .slice A1_1 l1_1.length c1_1] 24 (0, 0)) (by (with_reducible repeat (first | refine blk_drewN ?_ _ | refine blk_drew ?_ | refine blk_alloc ?_ _)); exact BK604.out) hb); have n2_ := Aside0.mk (below_step (by repeat (first | (with_reducible first | exact HB.out | apply below_alloc | apply pw_below_drewN | apply below_drew1 | refine below_set ?_ GE603.out | refine below_set ?_ GE604.out) | exact HB.out)) hb); have n3_ := Aside0.mk (hbox); have n4_ := Aside0.mk ((by rw [hg]; exact (below_size (by repeat (first | (with_reducible first | exact HB.out | apply below_alloc | apply pw_below_drewN | apply below_drew1 | refine below_set ?_ GE603.out | refine below_set ?_ GE604.out) | exact HB.out))) : w.heap.size ≤ gb605)); have n5_ := Aside0.mk ((by rw [hg]; exact (below_size (by repeat (first | (with_reducible first | exact HB.out | apply below_alloc | apply pw_below_drewN | apply below_drew1 | refine below_set ?_ GE603.out | refine below_set ?_ GE604.out) | exact HB.out))) : w.heap.size ≤ gb605)); have n6_ := Aside0.mk ((by rw [hg]; exact Nat.ne_of_lt (blk_lt (g := gb603) (o := .cells #[.int .i64 a0_0, .slice A0_1 l0_1.length c0_1] 24 (0, 0)) (by (with_reducible repeat (first | refine blk_drewN ?_ _ | refine blk_drew ?_ | refine blk_alloc ?_ _)); exact BK603.out)) : gb603 ≠ gb605)); have n7_ := Aside0.mk ((by rw [hg]; exact Nat.ne_of_gt (blk_lt (g := gb603) (o := .cells #[.int .i64 a0_0, .slice A0_1 l0_1.length c0_1] 24 (0, 0)) (by (with_reducible repeat (first | refine blk_drewN ?_ _ | refine blk_drew ?_ | refine blk_alloc ?_ _)); exact BK603.out)) : gb605 ≠ gb603)); have n8_ := Aside0.mk ((by rw [hg]; exact Nat.ne_of_lt (blk_lt (g := gb604) (o := .cells #[.int .i64 a1_0, .slice A1_1 l1_1.length c1_1] 24 (0, 0)) (by (with_reducible repeat (first | refine blk_drewN ?_ _ | refine blk_drew ?_ | refine blk_alloc ?_ _)); exact BK604.out)) : gb604 ≠ gb605)); have n9_ := Aside0.mk ((by rw [hg]; exact Nat.ne_of_gt (blk_lt (g := gb604) (o := .cells #[.int .i64 a1_0, .slice A1_1 l1_1.length c1_1] 24 (0, 0)) (by (with_reducible repeat (first | refine blk_drewN ?_ _ | refine blk_drew ?_ | refine blk_alloc ?_ _)); exact BK604.out)) : gb605 ≠ gb604)); clear BK603; clear BK604; clear HB; have BK603 := n0_; have BK604 := n1_; have HB := n2_; have BK605 := n3_; have GW605 := n4_; have GE605 := n5_; have NB603_605 := n6_; have NB605_603 := n7_; have NB604_605 := n8_; have NB605_604 := n9_; clear n0_ n1_ n2_ n3_ n4_ n5_ n6_ n7_ n8_ n9_; clear hb hbox hg; have hnb106 := NB603_604.out; have hnc106 := NB604_603.out; have hnb107 := NB603_605.out; have hnc107 := NB605_603.out; have hcz108_0 : w105.cell? ⟨gb603, 0, none⟩ = some (.int .i64 a0_0) := (blk_cell BK603.out 0).trans rfl; have hcz108_1 : w105.cell? ⟨gb603, 1, none⟩ = some (.slice A0_1 l0_1.length c0_1) := (blk_cell BK603.out 1).trans rfl; have hfz108_0 := blk_frozen BK603.out 0; have hfz108_1 := blk_frozen BK603.out 1) | ((with_reducible refine gate_callee (f := 44) rfl ?_); refine goesL_ (some 15) rfl rfl Try.func44 (by kernel_rfl) rfl #[.agg #[.int .i64 a0_0, .slice A0_1 l0_1.length c0_1]] rfl (by (try simp only [List.map_toArray, List.map_cons, List.map_nil]); first | done | rfl | (simp only [List.length_drop, List.length_take]; rfl)) ?_; (with_reducible refine (cal_Check.calls a0_0 _ _ l0_1 t606 t607 _ ?side1 ?side2 A3.out).mono ?_); (case side1 => repeat (first | exact (Kd.C_below HR0_1.out HB.out) | (with_reducible refine Kd.C_alloc ?_ _) | (with_reducible refine Kd.C_drewN ?_ _) | (with_reducible refine Kd.C_drew ?_))); (case side2 => exact HC0_1.out); rintro e w109 ⟨rfl, hb⟩; refine ⟨_, rfl, ?_⟩; have n0_ := Aside0.mk (blk_below (g := gb603) (o := .cells #[.int .i64 a0_0, .slice A0_1 l0_1.length c0_1] 24 (0, 0)) (by (with_reducible repeat (first | refine blk_drewN ?_ _ | refine blk_drew ?_ | refine blk_alloc ?_ _)); exact BK603.out) hb); have n1_ := Aside0.mk (blk_below (g := gb604) (o := .cells #[.int .i64 a1_0, .slice A1_1 l1_1.length c1_1] 24 (0, 0)) (by (with_reducible repeat (first | refine blk_drewN ?_ _ | refine blk_drew ?_ | refine blk_alloc ?_ _)); exact BK604.out) hb); have n2_ := Aside0.mk (blk_below (g := gb605) (o := .cells #[.int .i64 0, .slice none 0 0] 24 (0, 0)) (by (with_reducible repeat (first | refine blk_drewN ?_ _ | refine blk_drew ?_ | refine blk_alloc ?_ _)); exact BK605.out) hb); have n3_ := Aside0.mk (below_step (by repeat (first | (with_reducible first | exact HB.out | apply below_alloc | apply pw_below_drewN | apply below_drew1 | refine below_set ?_ GE603.out | refine below_set ?_ GE604.out | refine below_set ?_ GE605.out) | exact HB.out)) hb); clear BK603; clear BK604; clear BK605; clear HB; have BK603 := n0_; have BK604 := n1_; have BK605 := n2_; have HB := n3_; clear n0_ n1_ n2_ n3_; (try clear hb); (try clear hb2); (try clear hk); (try clear hi); have hnb110 := NB604_605.out; have hnc110 := NB605_604.out; have hcz111_0 : w109.cell? ⟨gb604, 0, none⟩ = some (.int .i64 a1_0) := (blk_cell BK604.out 0).trans rfl; have hcz111_1 : w109.cell? ⟨gb604, 1, none⟩ = some (.slice A1_1 l1_1.length c1_1) := (blk_cell BK604.out 1).trans rfl; have hfz111_0 := blk_frozen BK604.out 0; have hfz111_1 := blk_frozen BK604.out 1) | ((with_reducible refine gate_callee (f := 44) rfl ?_); refine goesL_ (some 24) rfl rfl Try.func44 (by kernel_rfl) rfl #[.agg #[.int .i64 a1_0, .slice A1_1 l1_1.length c1_1]] rfl (by (try simp only [List.map_toArray, List.map_cons, List.map_nil]); first | done | rfl | (simp only [List.length_drop, List.length_take]; rfl)) ?_; (with_reducible refine (cal_Check.calls a1_0 _ _ l1_1 t608 t609 _ ?side1 ?side2 A5.out).mono ?_); (case side1 => repeat (first | exact (Kd.C_below HR1_1.out HB.out) | (with_reducible refine Kd.C_alloc ?_ _) | (with_reducible refine Kd.C_drewN ?_ _) | (with_reducible refine Kd.C_drew ?_))); (case side2 => exact HC1_1.out); rintro e w112 ⟨rfl, hb⟩; refine ⟨_, rfl, ?_⟩; have n0_ := Aside0.mk (blk_below (g := gb603) (o := .cells #[.int .i64 a0_0, .slice A0_1 l0_1.length c0_1] 24 (0, 0)) (by (with_reducible repeat (first | refine blk_drewN ?_ _ | refine blk_drew ?_ | refine blk_alloc ?_ _)); exact BK603.out) hb); have n1_ := Aside0.mk (blk_below (g := gb604) (o := .cells #[.int .i64 a1_0, .slice A1_1 l1_1.length c1_1] 24 (0, 0)) (by (with_reducible repeat (first | refine blk_drewN ?_ _ | refine blk_drew ?_ | refine blk_alloc ?_ _)); exact BK604.out) hb); have n2_ := Aside0.mk (blk_below (g := gb605) (o := .cells #[.int .i64 0, .slice none 0 0] 24 (0, 0)) (by (with_reducible repeat (first | refine blk_drewN ?_ _ | refine blk_drew ?_ | refine blk_alloc ?_ _)); exact BK605.out) hb); have n3_ := Aside0.mk (below_step (by repeat (first | (with_reducible first | exact HB.out | apply below_alloc | apply pw_below_drewN | apply below_drew1 | refine below_set ?_ GE603.out | refine below_set ?_ GE604.out | refine below_set ?_ GE605.out) | exact HB.out)) hb); clear BK603; clear BK604; clear BK605; clear HB; have BK603 := n0_; have BK604 := n1_; have BK605 := n2_; have HB := n3_; clear n0_ n1_ n2_ n3_; (try clear hb); (try clear hb2); (try clear hk); (try clear hi); have hcz113_0 : w112.cell? ⟨gb605, 0, none⟩ = some (.int .i64 0) := (blk_cell BK605.out 0).trans rfl; have hcz113_1 : w112.cell? ⟨gb605, 1, none⟩ = some (.slice none 0 0) := (blk_cell BK605.out 1).trans rfl; have hfz113_0 := blk_frozen BK605.out 0; have hfz113_1 := blk_frozen BK605.out 1))
      refine bodyPost_ret (results_ct rfl _ _ gb605 24 #[.int .i64 0, .slice none 0 0] (0, 0) _ rfl (by (with_reducible repeat (first | refine blk_drewN ?_ _ | refine blk_drew ?_ | refine blk_alloc ?_ _)); refine blk_put (cs := #[.int .i64 0, .slice none 0 0]) ?_ 1 _ rfl; (with_reducible repeat (first | refine blk_drewN ?_ _ | refine blk_drew ?_ | refine blk_alloc ?_ _)); refine blk_put (cs := #[.int .i64 0, .slice none 0 0]) ?_ 0 _ rfl; (with_reducible repeat (first | refine blk_drewN ?_ _ | refine blk_drew ?_ | refine blk_alloc ?_ _)); exact BK605.out) Try.underlying24 rfl (by kernel_rfl)) rfl ?_
      exact ⟨_, by first | rfl | (simp [errW_none, errW_some] <;> rfl) | (simp [*, errW_none, errW_some] <;> rfl), by first | exact Kd.R_nil _ _ _ _ _ | exact Kd.N_nil _ _ _ _ _ | exact Kd.V_nil _ _ _ _ _ | exact Kd.Q_nil _ _ _ _ _ | exact Kd.S_nil _ _ _ _ _, by repeat (first | (with_reducible first | exact HB.out | apply below_alloc | apply pw_below_drewN | apply below_drew1 | refine below_set ?_ GE603.out | refine below_set ?_ GE604.out | refine below_set ?_ GE605.out) | exact HB.out)⟩
  · rw [if_neg c4] at H
    have c4b0 : (t606 == 0) = false := beq_eq_false_iff_ne.mpr c4
    have c4b1 : (t606 != 0) = true := bne_iff_ne.mpr c4
    simp only [Option.some.injEq, Prod.mk.injEq] at H
    obtain ⟨rfl, rfl, rfl⟩ := H
    go_enter Try.func46, Try.ntmps46
    go_wp2_with (first | ((with_reducible refine gate_dst (N := 2) rfl ?_); refine box_event ?hg (N := 2) ?hd (cs := #[.int .i64 a0_0, .slice A0_1 l0_1.length c0_1]) (t := 24) ?hr ?_; (case hd => rfl); (case hg => rfl); (case hr => first | (go_simp; done) | (go_simp; rfl)); intro gb603 hg w114 hbox hb; have n0_ := Aside0.mk (below_step (by repeat (first | (with_reducible first | exact HB.out | apply below_alloc | apply pw_below_drewN | apply below_drew1) | exact HB.out)) hb); have n1_ := Aside0.mk (hbox); have n2_ := Aside0.mk ((by rw [hg]; exact (below_size (by repeat (first | (with_reducible first | exact HB.out | apply below_alloc | apply pw_below_drewN | apply below_drew1) | exact HB.out))) : w.heap.size ≤ gb603)); have n3_ := Aside0.mk ((by rw [hg]; exact (below_size (by repeat (first | (with_reducible first | exact HB.out | apply below_alloc | apply pw_below_drewN | apply below_drew1) | exact HB.out))) : w.heap.size ≤ gb603)); clear HB; have HB := n0_; have BK603 := n1_; have GW603 := n2_; have GE603 := n3_; clear n0_ n1_ n2_ n3_; clear hb hbox hg) | ((with_reducible refine gate_dst (N := 3) rfl ?_); refine box_event ?hg (N := 3) ?hd (cs := #[.int .i64 a1_0, .slice A1_1 l1_1.length c1_1]) (t := 24) ?hr ?_; (case hd => rfl); (case hg => rfl); (case hr => first | (go_simp; done) | (go_simp; rfl)); intro gb604 hg w115 hbox hb; have n0_ := Aside0.mk (blk_below (g := gb603) (o := .cells #[.int .i64 a0_0, .slice A0_1 l0_1.length c0_1] 24 (0, 0)) (by (with_reducible repeat (first | refine blk_drewN ?_ _ | refine blk_drew ?_ | refine blk_alloc ?_ _)); exact BK603.out) hb); have n1_ := Aside0.mk (below_step (by repeat (first | (with_reducible first | exact HB.out | apply below_alloc | apply pw_below_drewN | apply below_drew1 | refine below_set ?_ GE603.out) | exact HB.out)) hb); have n2_ := Aside0.mk (hbox); have n3_ := Aside0.mk ((by rw [hg]; exact (below_size (by repeat (first | (with_reducible first | exact HB.out | apply below_alloc | apply pw_below_drewN | apply below_drew1 | refine below_set ?_ GE603.out) | exact HB.out))) : w.heap.size ≤ gb604)); have n4_ := Aside0.mk ((by rw [hg]; exact (below_size (by repeat (first | (with_reducible first | exact HB.out | apply below_alloc | apply pw_below_drewN | apply below_drew1 | refine below_set ?_ GE603.out) | exact HB.out))) : w.heap.size ≤ gb604)); have n5_ := Aside0.mk ((by rw [hg]; exact Nat.ne_of_lt (blk_lt (g := gb603) (o := .cells #[.int .i64 a0_0, .slice A0_1 l0_1.length c0_1] 24 (0, 0)) (by (with_reducible repeat (first | refine blk_drewN ?_ _ | refine blk_drew ?_ | refine blk_alloc ?_ _)); exact BK603.out)) : gb603 ≠ gb604)); have n6_ := Aside0.mk ((by rw [hg]; exact Nat.ne_of_gt (blk_lt (g := gb603) (o := .cells #[.int .i64 a0_0, .slice A0_1 l0_1.length c0_1] 24 (0, 0)) (by (with_reducible repeat (first | refine blk_drewN ?_ _ | refine blk_drew ?_ | refine blk_alloc ?_ _)); exact BK603.out)) : gb604 ≠ gb603)); clear BK603; clear HB; have BK603 := n0_; have HB := n1_; have BK604 := n2_; have GW604 := n3_; have GE604 := n4_; have NB603_604 := n5_; have NB604_603 := n6_; clear n0_ n1_ n2_ n3_ n4_ n5_ n6_; clear hb hbox hg) | ((with_reducible refine gate_dst (N := 4) rfl ?_); refine box_event ?hg (N := 4) ?hd (cs := #[.int .i64 0, .slice none 0 0]) (t := 24) ?hr ?_; (case hd => rfl); (case hg => rfl); (case hr => first | (go_simp; done) | (go_simp; rfl)); intro gb605 hg w116 hbox hb; have n0_ := Aside0.mk (blk_below (g := gb603) (o := .cells #[.int .i64 a0_0, .slice A0_1 l0_1.length c0_1] 24 (0, 0)) (by (with_reducible repeat (first | refine blk_drewN ?_ _ | refine blk_drew ?_ | refine blk_alloc ?_ _)); exact BK603.out) hb); have n1_ := Aside0.mk (blk_below (g := gb604) (o := .cells #[.int .i64 a1_0, .slice A1_1 l1_1.length c1_1] 24 (0, 0)) (by (with_reducible repeat (first | refine blk_drewN ?_ _ | refine blk_drew ?_ | refine blk_alloc ?_ _)); exact BK604.out) hb); have n2_ := Aside0.mk (below_step (by repeat (first | (with_reducible first | exact HB.out | apply below_alloc | apply pw_below_drewN | apply below_drew1 | refine below_set ?_ GE603.out | refine below_set ?_ GE604.out) | exact HB.out)) hb); have n3_ := Aside0.mk (hbox); have n4_ := Aside0.mk ((by rw [hg]; exact (below_size (by repeat (first | (with_reducible first | exact HB.out | apply below_alloc | apply pw_below_drewN | apply below_drew1 | refine below_set ?_ GE603.out | refine below_set ?_ GE604.out) | exact HB.out))) : w.heap.size ≤ gb605)); have n5_ := Aside0.mk ((by rw [hg]; exact (below_size (by repeat (first | (with_reducible first | exact HB.out | apply below_alloc | apply pw_below_drewN | apply below_drew1 | refine below_set ?_ GE603.out | refine below_set ?_ GE604.out) | exact HB.out))) : w.heap.size ≤ gb605)); have n6_ := Aside0.mk ((by rw [hg]; exact Nat.ne_of_lt (blk_lt (g := gb603) (o := .cells #[.int .i64 a0_0, .slice A0_1 l0_1.length c0_1] 24 (0, 0)) (by (with_reducible repeat (first | refine blk_drewN ?_ _ | refine blk_drew ?_ | refine blk_alloc ?_ _)); exact BK603.out)) : gb603 ≠ gb605)); have n7_ := Aside0.mk ((by rw [hg]; exact Nat.ne_of_gt (blk_lt (g := gb603) (o := .cells #[.int .i64 a0_0, .slice A0_1 l0_1.length c0_1] 24 (0, 0)) (by (with_reducible repeat (first | refine blk_drewN ?_ _ | refine blk_drew ?_ | refine blk_alloc ?_ _)); exact BK603.out)) : gb605 ≠ gb603)); have n8_ := Aside0.mk ((by rw [hg]; exact Nat.ne_of_lt (blk_lt (g := gb604) (o := .cells #[.int .i64 a1_0, .slice A1_1 l1_1.length c1_1] 24 (0, 0)) (by (with_reducible repeat (first | refine blk_drewN ?_ _ | refine blk_drew ?_ | refine blk_alloc ?_ _)); exact BK604.out)) : gb604 ≠ gb605)); have n9_ := Aside0.mk ((by rw [hg]; exact Nat.ne_of_gt (blk_lt (g := gb604) (o := .cells #[.int .i64 a1_0, .slice A1_1 l1_1.length c1_1] 24 (0, 0)) (by (with_reducible repeat (first | refine blk_drewN ?_ _ | refine blk_drew ?_ | refine blk_alloc ?_ _)); exact BK604.out)) : gb605 ≠ gb604)); clear BK603; clear BK604; clear HB; have BK603 := n0_; have BK604 := n1_; have HB := n2_; have BK605 := n3_; have GW605 := n4_; have GE605 := n5_; have NB603_605 := n6_; have NB605_603 := n7_; have NB604_605 := n8_; have NB605_604 := n9_; clear n0_ n1_ n2_ n3_ n4_ n5_ n6_ n7_ n8_ n9_; clear hb hbox hg; have hnb117 := NB603_604.out; have hnc117 := NB604_603.out; have hnb118 := NB603_605.out; have hnc118 := NB605_603.out; have hcz119_0 : w116.cell? ⟨gb603, 0, none⟩ = some (.int .i64 a0_0) := (blk_cell BK603.out 0).trans rfl; have hcz119_1 : w116.cell? ⟨gb603, 1, none⟩ = some (.slice A0_1 l0_1.length c0_1) := (blk_cell BK603.out 1).trans rfl; have hfz119_0 := blk_frozen BK603.out 0; have hfz119_1 := blk_frozen BK603.out 1) | ((with_reducible refine gate_callee (f := 44) rfl ?_); refine goesL_ (some 15) rfl rfl Try.func44 (by kernel_rfl) rfl #[.agg #[.int .i64 a0_0, .slice A0_1 l0_1.length c0_1]] rfl (by (try simp only [List.map_toArray, List.map_cons, List.map_nil]); first | done | rfl | (simp only [List.length_drop, List.length_take]; rfl)) ?_; (with_reducible refine (cal_Check.calls a0_0 _ _ l0_1 t606 t607 _ ?side1 ?side2 A3.out).mono ?_); (case side1 => repeat (first | exact (Kd.C_below HR0_1.out HB.out) | (with_reducible refine Kd.C_alloc ?_ _) | (with_reducible refine Kd.C_drewN ?_ _) | (with_reducible refine Kd.C_drew ?_))); (case side2 => exact HC0_1.out); rintro e w120 ⟨rfl, hb⟩; refine ⟨_, rfl, ?_⟩; have n0_ := Aside0.mk (blk_below (g := gb603) (o := .cells #[.int .i64 a0_0, .slice A0_1 l0_1.length c0_1] 24 (0, 0)) (by (with_reducible repeat (first | refine blk_drewN ?_ _ | refine blk_drew ?_ | refine blk_alloc ?_ _)); exact BK603.out) hb); have n1_ := Aside0.mk (blk_below (g := gb604) (o := .cells #[.int .i64 a1_0, .slice A1_1 l1_1.length c1_1] 24 (0, 0)) (by (with_reducible repeat (first | refine blk_drewN ?_ _ | refine blk_drew ?_ | refine blk_alloc ?_ _)); exact BK604.out) hb); have n2_ := Aside0.mk (blk_below (g := gb605) (o := .cells #[.int .i64 0, .slice none 0 0] 24 (0, 0)) (by (with_reducible repeat (first | refine blk_drewN ?_ _ | refine blk_drew ?_ | refine blk_alloc ?_ _)); exact BK605.out) hb); have n3_ := Aside0.mk (below_step (by repeat (first | (with_reducible first | exact HB.out | apply below_alloc | apply pw_below_drewN | apply below_drew1 | refine below_set ?_ GE603.out | refine below_set ?_ GE604.out | refine below_set ?_ GE605.out) | exact HB.out)) hb); clear BK603; clear BK604; clear BK605; clear HB; have BK603 := n0_; have BK604 := n1_; have BK605 := n2_; have HB := n3_; clear n0_ n1_ n2_ n3_; (try clear hb); (try clear hb2); (try clear hk); (try clear hi); have hnb121 := NB605_604.out; have hnc121 := NB604_605.out; have hcz122_0 : w120.cell? ⟨gb605, 0, none⟩ = some (.int .i64 0) := (blk_cell BK605.out 0).trans rfl; have hcz122_1 : w120.cell? ⟨gb605, 1, none⟩ = some (.slice none 0 0) := (blk_cell BK605.out 1).trans rfl; have hfz122_0 := blk_frozen BK605.out 0; have hfz122_1 := blk_frozen BK605.out 1))
    refine bodyPost_ret (results_ct rfl _ _ gb605 24 #[.int .i64 0, .slice none 0 0] (0, 0) _ rfl (by (with_reducible repeat (first | refine blk_drewN ?_ _ | refine blk_drew ?_ | refine blk_alloc ?_ _)); refine blk_put (cs := #[.int .i64 0, .slice none 0 0]) ?_ 1 _ rfl; (with_reducible repeat (first | refine blk_drewN ?_ _ | refine blk_drew ?_ | refine blk_alloc ?_ _)); refine blk_put (cs := #[.int .i64 0, .slice none 0 0]) ?_ 0 _ rfl; (with_reducible repeat (first | refine blk_drewN ?_ _ | refine blk_drew ?_ | refine blk_alloc ?_ _)); exact BK605.out) Try.underlying24 rfl (by kernel_rfl)) rfl ?_
    exact ⟨_, by first | rfl | (simp [errW_none, errW_some] <;> rfl) | (simp [*, errW_none, errW_some] <;> rfl), by first | exact Kd.R_nil _ _ _ _ _ | exact Kd.N_nil _ _ _ _ _ | exact Kd.V_nil _ _ _ _ _ | exact Kd.Q_nil _ _ _ _ _ | exact Kd.S_nil _ _ _ _ _, by repeat (first | (with_reducible first | exact HB.out | apply below_alloc | apply pw_below_drewN | apply below_drew1 | refine below_set ?_ GE603.out | refine below_set ?_ GE604.out | refine below_set ?_ GE605.out) | exact HB.out)⟩

end Go.Proofs.Ytoncignjcgjhhaa.Q
