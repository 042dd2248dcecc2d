/- Contracts of functions of the seat's program: each Go function's Lean function and its walk, written by a program of this session over the kit's print. Not trusted: Lean checks it. -/
import Derived.Test.YtoncignjcgjhhaaZGA
import Derived.Test.YtoncignjcgjhhaaZGK
import Derived.Test.YtoncignjcgjhhaaZGL
import Derived.Test.YtoncignjcgjhhaaZGM
import Derived.Test.YtoncignjcgjhhaaZQx51
set_option linter.unusedVariables false
set_option linter.unusedSimpArgs false
namespace Go.Proofs.Ytoncignjcgjhhaa.Q
open Go.RowKit Go.Proofs.YtoncignjcgjhhaaW.PrintWords Go.Proofs.YtoncignjcgjhhaaW.PrintLast Go.Proofs.YtoncignjcgjhhaaW.PrintMore
attribute [local go_sem] max2_int min2_int max_two min_two max_three min_three max_four min_four   -- for this text's walks alone
set_option linter.unusedVariables false
set_option linter.unusedSimpArgs false

/-! ### tenorlaw6_CalMoves: function 9 -/
def tenorlaw6_CalMoves.f (k : Nat) (a0_0 : Int) (l0_1 : List (S63)) (a1 : Int) (a2 : Int) : Option (Bool) := (tenorlaw6_Few.f a0_0 l0_1).bind fun t536 => (if t536 = true then ((cal_Adjust.f a0_0 l0_1 a1 a2).bind fun bt537 => ((tenorref6_Adjust.f k a0_0 l0_1 a1 a2).bind fun bt539 => (if bt537.1 = bt539.1 then (if bt537.2 = bt539.2 then ((tenorlaw6_awake.f).bind fun t541 => (some t541)) else (some false)) else (some false)))) else ((tenorlaw6_awake.f).bind fun t542 => (some t542)))
theorem tenorlaw6_CalMoves.mono : ∀ a0 a1 a2 a3 k, LeO (tenorlaw6_CalMoves.f k a0 a1 a2 a3) (tenorlaw6_CalMoves.f (k + 1) a0 a1 a2 a3) := by
  intro a0 a1 a2 a3 k
  unfold tenorlaw6_CalMoves.f
  repeat' first
      | (with_reducible exact tenorref6_Adjust.mono _ _ _ _ _)
      | (with_reducible exact LeO.refl _)
      | (with_reducible exact LeO.none _)
      | (with_reducible refine LeO.ite ?_ ?_)
      | (with_reducible refine LeO.bind ?_ (fun _ => ?_))
      | exact tenorref6_Adjust.mono _ _ _ _ _
      | exact LeO.none _
      | refine LeO.ite ?_ ?_
      | refine LeO.bind ?_ (fun _ => ?_)
set_option maxHeartbeats 8000000 in
set_option maxRecDepth 100000 in
theorem tenorlaw6_CalMoves.calls (k : Nat) (a0_0 : Int) (A0_1 : Option Addr) (c0_1 : Nat) (l0_1 : List (S63)) (a1 : Int) (a2 : Int) (r : Bool) (w : World) (hr0_1 : Kd.C k63 w A0_1 l0_1.length l0_1) (hc0_1 : l0_1.length ≤ c0_1) (h : tenorlaw6_CalMoves.f k a0_0 l0_1 a1 a2 = some r) (HT : r = true) :
    Calls Try.prog 9 #[.agg #[.int .i64 a0_0, .slice A0_1 l0_1.length c0_1], .int .i64 a1, .int .i64 a2] w fun e w' => e = .returned (.bool r) ∧ Below w.heap.size w w' := by
  have hu24 := Try.underlying24
  have HR0_1 := Aside0.mk hr0_1
  have HC0_1 := Aside0.mk hc0_1
  clear hr0_1 hc0_1
  have HB := Aside0.mk (Below.refl w.heap.size w)
  have H : ((tenorlaw6_Few.f a0_0 l0_1).bind fun t536 => (if t536 = true then ((cal_Adjust.f a0_0 l0_1 a1 a2).bind fun bt537 => ((tenorref6_Adjust.f k a0_0 l0_1 a1 a2).bind fun bt539 => (if bt537.1 = bt539.1 then (if bt537.2 = bt539.2 then ((tenorlaw6_awake.f).bind fun t541 => (some t541)) else (some false)) else (some false)))) else ((tenorlaw6_awake.f).bind fun t542 => (some t542)))) = some r := h
  clear h
  replace H := Option.bind_eq_some_iff.mp H
  obtain ⟨t536, A40, H⟩ := H
  replace H : (if t536 = true then ((cal_Adjust.f a0_0 l0_1 a1 a2).bind fun bt537 => ((tenorref6_Adjust.f k a0_0 l0_1 a1 a2).bind fun bt539 => (if bt537.1 = bt539.1 then (if bt537.2 = bt539.2 then ((tenorlaw6_awake.f).bind fun t541 => (some t541)) else (some false)) else (some false)))) else ((tenorlaw6_awake.f).bind fun t542 => (some t542))) = some r := H
  have A4 := Aside0.mk A40
  clear A40
  by_cases c5 : t536 = true
  · subst c5
    have H1 : ((cal_Adjust.f a0_0 l0_1 a1 a2).bind fun bt537 => ((tenorref6_Adjust.f k a0_0 l0_1 a1 a2).bind fun bt539 => (if bt537.1 = bt539.1 then (if bt537.2 = bt539.2 then ((tenorlaw6_awake.f).bind fun t541 => (some t541)) else (some false)) else (some false)))) = some r := by rw [if_pos rfl] at H; exact H
    clear H
    have H := H1
    clear H1
    replace H := Option.bind_eq_some_iff.mp H
    obtain ⟨⟨t537, t538⟩, A60, H⟩ := H
    replace H : ((tenorref6_Adjust.f k a0_0 l0_1 a1 a2).bind fun bt539 => (if t537 = bt539.1 then (if t538 = bt539.2 then ((tenorlaw6_awake.f).bind fun t541 => (some t541)) else (some false)) else (some false))) = some r := H
    have A6 := Aside0.mk A60
    clear A60
    replace H := Option.bind_eq_some_iff.mp H
    obtain ⟨⟨t539, t540⟩, A70, H⟩ := H
    replace H : (if t537 = t539 then (if t538 = t540 then ((tenorlaw6_awake.f).bind fun t541 => (some t541)) else (some false)) else (some false)) = some r := H
    have A7 := Aside0.mk A70
    clear A70
    by_cases c8 : t537 = t539
    · rw [if_pos c8] at H
      have c8b0 : (t537 == t539) = true := beq_iff_eq.mpr c8
      have c8b1 : (t537 != t539) = false := bne_eq_false_iff_eq.mpr c8
      clear c8
      by_cases c9 : t538 = t540
      · rw [if_pos c9] at H
        have c9b0 : (t538 == t540) = true := beq_iff_eq.mpr c9
        have c9b1 : (t538 != t540) = false := bne_eq_false_iff_eq.mpr c9
        clear c9
        replace H := Option.bind_eq_some_iff.mp H
        obtain ⟨t541, A100, H⟩ := H
        replace H : (some t541) = some r := H
        have A10 := Aside0.mk A100
        clear A100
        obtain rfl := Option.some.inj H
        go_enter Try.func9, Try.ntmps9
        go_wp2_with (first | ((with_reducible refine gate_dst (N := 3) rfl ?_); refine box_event ?hg (N := 3) ?hd (cs := #[.int .i64 a0_0, .slice A0_1 l0_1.length c0_1]) (t := 24) ?hr ?_; (case hd => rfl); (case hg => rfl); (case hr => first | (go_simp; done) | (go_simp; rfl)); intro gb535 hg w11 hbox hb; have n0_ := Aside0.mk (below_step (by repeat (first | (with_reducible first | exact HB.out | apply below_alloc | apply pw_below_drewN | apply below_drew1) | exact HB.out)) hb); have n1_ := Aside0.mk (hbox); have n2_ := Aside0.mk ((by rw [hg]; exact (below_size (by repeat (first | (with_reducible first | exact HB.out | apply below_alloc | apply pw_below_drewN | apply below_drew1) | exact HB.out))) : w.heap.size ≤ gb535)); have n3_ := Aside0.mk ((by rw [hg]; exact (below_size (by repeat (first | (with_reducible first | exact HB.out | apply below_alloc | apply pw_below_drewN | apply below_drew1) | exact HB.out))) : w.heap.size ≤ gb535)); clear HB; have HB := n0_; have BK535 := n1_; have GW535 := n2_; have GE535 := n3_; clear n0_ n1_ n2_ n3_; clear hb hbox hg; have hcz12_0 : w11.cell? ⟨gb535, 0, none⟩ = some (.int .i64 a0_0) := (blk_cell BK535.out 0).trans rfl; have hcz12_1 : w11.cell? ⟨gb535, 1, none⟩ = some (.slice A0_1 l0_1.length c0_1) := (blk_cell BK535.out 1).trans rfl; have hfz12_0 := blk_frozen BK535.out 0; have hfz12_1 := blk_frozen BK535.out 1) | ((with_reducible refine gate_callee (f := 37) rfl ?_); refine goesL_ (some 12) rfl rfl Try.func37 (by kernel_rfl) rfl #[.agg #[.int .i64 a0_0, .slice A0_1 l0_1.length c0_1]] rfl (by (try simp only [List.map_toArray, List.map_cons, List.map_nil]); first | done | rfl | (simp only [List.length_drop, List.length_take]; rfl)) ?_; (with_reducible refine (tenorlaw6_Few.calls a0_0 _ _ l0_1 true _ ?side1 ?side2 A4.out).mono ?_); (case side1 => repeat (first | exact (Kd.C_below HR0_1.out HB.out) | (with_reducible refine Kd.C_alloc ?_ _) | (with_reducible refine Kd.C_drewN ?_ _) | (with_reducible refine Kd.C_drew ?_))); (case side2 => exact HC0_1.out); rintro e w13 ⟨rfl, hb⟩; refine ⟨_, rfl, ?_⟩; have n0_ := Aside0.mk (blk_below (g := gb535) (o := .cells #[.int .i64 a0_0, .slice A0_1 l0_1.length c0_1] 24 (0, 0)) (by (with_reducible repeat (first | refine blk_drewN ?_ _ | refine blk_drew ?_ | refine blk_alloc ?_ _)); exact BK535.out) hb); have n1_ := Aside0.mk (below_step (by repeat (first | (with_reducible first | exact HB.out | apply below_alloc | apply pw_below_drewN | apply below_drew1 | refine below_set ?_ GE535.out) | exact HB.out)) hb); clear BK535; clear HB; have BK535 := n0_; have HB := n1_; clear n0_ n1_; (try clear hb); (try clear hb2); (try clear hk); (try clear hi); have hcz14_0 : w13.cell? ⟨gb535, 0, none⟩ = some (.int .i64 a0_0) := (blk_cell BK535.out 0).trans rfl; have hcz14_1 : w13.cell? ⟨gb535, 1, none⟩ = some (.slice A0_1 l0_1.length c0_1) := (blk_cell BK535.out 1).trans rfl; have hfz14_0 := blk_frozen BK535.out 0; have hfz14_1 := blk_frozen BK535.out 1) | ((with_reducible refine gate_callee (f := 38) rfl ?_); refine goesL_ (some 19) rfl rfl Try.func38 (by kernel_rfl) rfl #[.agg #[.int .i64 a0_0, .slice A0_1 l0_1.length c0_1], .int .i64 a1, .int .i64 a2] rfl (by (try simp only [List.map_toArray, List.map_cons, List.map_nil]); first | done | rfl | (simp only [List.length_drop, List.length_take]; rfl)) ?_; (with_reducible refine (cal_Adjust.calls a0_0 _ _ l0_1 a1 a2 t537 t538 _ ?side1 ?side2 A6.out).mono ?_); (case side1 => repeat (first | exact (Kd.C_below HR0_1.out HB.out) | (with_reducible refine Kd.C_alloc ?_ _) | (with_reducible refine Kd.C_drewN ?_ _) | (with_reducible refine Kd.C_drew ?_))); (case side2 => exact HC0_1.out); rintro e w15 ⟨rfl, hb⟩; refine ⟨_, rfl, ?_⟩; have n0_ := Aside0.mk (blk_below (g := gb535) (o := .cells #[.int .i64 a0_0, .slice A0_1 l0_1.length c0_1] 24 (0, 0)) (by (with_reducible repeat (first | refine blk_drewN ?_ _ | refine blk_drew ?_ | refine blk_alloc ?_ _)); exact BK535.out) hb); have n1_ := Aside0.mk (below_step (by repeat (first | (with_reducible first | exact HB.out | apply below_alloc | apply pw_below_drewN | apply below_drew1 | refine below_set ?_ GE535.out) | exact HB.out)) hb); clear BK535; clear HB; have BK535 := n0_; have HB := n1_; clear n0_ n1_; (try clear hb); (try clear hb2); (try clear hk); (try clear hi); have hcz16_0 : w15.cell? ⟨gb535, 0, none⟩ = some (.int .i64 a0_0) := (blk_cell BK535.out 0).trans rfl; have hcz16_1 : w15.cell? ⟨gb535, 1, none⟩ = some (.slice A0_1 l0_1.length c0_1) := (blk_cell BK535.out 1).trans rfl; have hfz16_0 := blk_frozen BK535.out 0; have hfz16_1 := blk_frozen BK535.out 1) | ((with_reducible refine gate_callee (f := 39) rfl ?_); refine goesL_ (some 26) rfl rfl Try.func39 (by kernel_rfl) rfl #[.agg #[.int .i64 a0_0, .slice A0_1 l0_1.length c0_1], .int .i64 a1, .int .i64 a2] rfl (by (try simp only [List.map_toArray, List.map_cons, List.map_nil]); first | done | rfl | (simp only [List.length_drop, List.length_take]; rfl)) ?_; (with_reducible refine (tenorref6_Adjust.calls k a0_0 _ _ l0_1 a1 a2 t539 t540 _ ?side1 ?side2 A7.out).mono ?_); (case side1 => repeat (first | exact (Kd.C_below HR0_1.out HB.out) | (with_reducible refine Kd.C_alloc ?_ _) | (with_reducible refine Kd.C_drewN ?_ _) | (with_reducible refine Kd.C_drew ?_))); (case side2 => exact HC0_1.out); rintro e w17 ⟨rfl, hb⟩; refine ⟨_, rfl, ?_⟩; have n0_ := Aside0.mk (blk_below (g := gb535) (o := .cells #[.int .i64 a0_0, .slice A0_1 l0_1.length c0_1] 24 (0, 0)) (by (with_reducible repeat (first | refine blk_drewN ?_ _ | refine blk_drew ?_ | refine blk_alloc ?_ _)); exact BK535.out) hb); have n1_ := Aside0.mk (below_step (by repeat (first | (with_reducible first | exact HB.out | apply below_alloc | apply pw_below_drewN | apply below_drew1 | refine below_set ?_ GE535.out) | exact HB.out)) hb); clear BK535; clear HB; have BK535 := n0_; have HB := n1_; clear n0_ n1_; (try clear hb); (try clear hb2); (try clear hk); (try clear hi)) | (go_at_call 32; (with_reducible refine (tenorlaw6_awake.calls  t541 _ A10.out).mono ?_); rintro e w18 ⟨rfl, hb⟩; have n0_ := Aside0.mk (blk_below (g := gb535) (o := .cells #[.int .i64 a0_0, .slice A0_1 l0_1.length c0_1] 24 (0, 0)) (by (with_reducible repeat (first | refine blk_drewN ?_ _ | refine blk_drew ?_ | refine blk_alloc ?_ _)); exact BK535.out) hb); have n1_ := Aside0.mk (below_step (by repeat (first | (with_reducible first | exact HB.out | apply below_alloc | apply pw_below_drewN | apply below_drew1 | refine below_set ?_ GE535.out) | exact HB.out)) hb); clear BK535; clear HB; have BK535 := n0_; have HB := n1_; clear n0_ n1_; (try clear hb); (try clear hb2); (try clear hk); (try clear hi)))
        go_ret
        exact ⟨by first | rfl | (simp [errW_none, errW_some] <;> rfl) | (simp [*, errW_none, errW_some] <;> rfl), by repeat (first | (with_reducible first | exact HB.out | apply below_alloc | apply pw_below_drewN | apply below_drew1 | refine below_set ?_ GE535.out) | exact HB.out)⟩
      · rw [if_neg c9] at H
        have c9b0 : (t538 == t540) = false := beq_eq_false_iff_ne.mpr c9
        have c9b1 : (t538 != t540) = true := bne_iff_ne.mpr c9
        exact absurd (H.trans (congrArg some HT)) (by decide)
    · rw [if_neg c8] at H
      have c8b0 : (t537 == t539) = false := beq_eq_false_iff_ne.mpr c8
      have c8b1 : (t537 != t539) = true := bne_iff_ne.mpr c8
      exact absurd (H.trans (congrArg some HT)) (by decide)
  · replace c5 := Bool.eq_false_iff.mpr c5
    subst c5
    have H1 : ((tenorlaw6_awake.f).bind fun t542 => (some t542)) = some r := by rw [if_neg (show ¬ (false = true) by decide)] at H; exact H
    clear H
    have H := H1
    clear H1
    replace H := Option.bind_eq_some_iff.mp H
    obtain ⟨t542, A330, H⟩ := H
    replace H : (some t542) = some r := H
    have A33 := Aside0.mk A330
    clear A330
    obtain rfl := Option.some.inj H
    go_enter Try.func9, Try.ntmps9
    go_wp2_with (first | ((with_reducible refine gate_dst (N := 3) rfl ?_); refine box_event ?hg (N := 3) ?hd (cs := #[.int .i64 a0_0, .slice A0_1 l0_1.length c0_1]) (t := 24) ?hr ?_; (case hd => rfl); (case hg => rfl); (case hr => first | (go_simp; done) | (go_simp; rfl)); intro gb535 hg w34 hbox hb; have n0_ := Aside0.mk (below_step (by repeat (first | (with_reducible first | exact HB.out | apply below_alloc | apply pw_below_drewN | apply below_drew1) | exact HB.out)) hb); have n1_ := Aside0.mk (hbox); have n2_ := Aside0.mk ((by rw [hg]; exact (below_size (by repeat (first | (with_reducible first | exact HB.out | apply below_alloc | apply pw_below_drewN | apply below_drew1) | exact HB.out))) : w.heap.size ≤ gb535)); have n3_ := Aside0.mk ((by rw [hg]; exact (below_size (by repeat (first | (with_reducible first | exact HB.out | apply below_alloc | apply pw_below_drewN | apply below_drew1) | exact HB.out))) : w.heap.size ≤ gb535)); clear HB; have HB := n0_; have BK535 := n1_; have GW535 := n2_; have GE535 := n3_; clear n0_ n1_ n2_ n3_; clear hb hbox hg; have hcz35_0 : w34.cell? ⟨gb535, 0, none⟩ = some (.int .i64 a0_0) := (blk_cell BK535.out 0).trans rfl; have hcz35_1 : w34.cell? ⟨gb535, 1, none⟩ = some (.slice A0_1 l0_1.length c0_1) := (blk_cell BK535.out 1).trans rfl; have hfz35_0 := blk_frozen BK535.out 0; have hfz35_1 := blk_frozen BK535.out 1) | ((with_reducible refine gate_callee (f := 37) rfl ?_); refine goesL_ (some 12) rfl rfl Try.func37 (by kernel_rfl) rfl #[.agg #[.int .i64 a0_0, .slice A0_1 l0_1.length c0_1]] rfl (by (try simp only [List.map_toArray, List.map_cons, List.map_nil]); first | done | rfl | (simp only [List.length_drop, List.length_take]; rfl)) ?_; (with_reducible refine (tenorlaw6_Few.calls a0_0 _ _ l0_1 false _ ?side1 ?side2 A4.out).mono ?_); (case side1 => repeat (first | exact (Kd.C_below HR0_1.out HB.out) | (with_reducible refine Kd.C_alloc ?_ _) | (with_reducible refine Kd.C_drewN ?_ _) | (with_reducible refine Kd.C_drew ?_))); (case side2 => exact HC0_1.out); rintro e w36 ⟨rfl, hb⟩; refine ⟨_, rfl, ?_⟩; have n0_ := Aside0.mk (blk_below (g := gb535) (o := .cells #[.int .i64 a0_0, .slice A0_1 l0_1.length c0_1] 24 (0, 0)) (by (with_reducible repeat (first | refine blk_drewN ?_ _ | refine blk_drew ?_ | refine blk_alloc ?_ _)); exact BK535.out) hb); have n1_ := Aside0.mk (below_step (by repeat (first | (with_reducible first | exact HB.out | apply below_alloc | apply pw_below_drewN | apply below_drew1 | refine below_set ?_ GE535.out) | exact HB.out)) hb); clear BK535; clear HB; have BK535 := n0_; have HB := n1_; clear n0_ n1_; (try clear hb); (try clear hb2); (try clear hk); (try clear hi)) | ((with_reducible refine gate_callee (f := 32) rfl ?_); refine goesL_ (some 14) rfl rfl Try.func32 (by kernel_rfl) rfl #[] rfl (by (try simp only [List.map_toArray, List.map_cons, List.map_nil]); first | done | rfl | (simp only [List.length_drop, List.length_take]; rfl)) ?_; (with_reducible refine (tenorlaw6_awake.calls  t542 _ A33.out).mono ?_); rintro e w37 ⟨rfl, hb⟩; refine ⟨_, rfl, ?_⟩; have n0_ := Aside0.mk (blk_below (g := gb535) (o := .cells #[.int .i64 a0_0, .slice A0_1 l0_1.length c0_1] 24 (0, 0)) (by (with_reducible repeat (first | refine blk_drewN ?_ _ | refine blk_drew ?_ | refine blk_alloc ?_ _)); exact BK535.out) hb); have n1_ := Aside0.mk (below_step (by repeat (first | (with_reducible first | exact HB.out | apply below_alloc | apply pw_below_drewN | apply below_drew1 | refine below_set ?_ GE535.out) | exact HB.out)) hb); clear BK535; clear HB; have BK535 := n0_; have HB := n1_; clear n0_ n1_; (try clear hb); (try clear hb2); (try clear hk); (try clear hi)))
    go_ret
    exact ⟨by first | rfl | (simp [errW_none, errW_some] <;> rfl) | (simp [*, errW_none, errW_some] <;> rfl), by repeat (first | (with_reducible first | exact HB.out | apply below_alloc | apply pw_below_drewN | apply below_drew1 | refine below_set ?_ GE535.out) | exact HB.out)⟩

/-! ### tenorref6_Add: function 41 -/
mutual
def tenorref6_Add.j0 : Nat → Int → Int → Int → Int → List (S63) → Option (Int × Int)
  | 0, _, _, _, _, _ => none
  | k + 1, x1, x2, x9, x544000, x544001 => tenorref6_Add.l0 k x1 x2 x9 x544000 x544001
def tenorref6_Add.l0 : Nat → Int → Int → Int → Int → List (S63) → Option (Int × Int)
  | 0, _, _, _, _, _ => none
  | k + 1, x1, x2, x9, x544000, x544001 => if x2 = 0 then (some (x1, 0)) else ((tenorref6_search.f k x544000 x544001 (wrap64 (x1 + x9)) x9).bind fun bt547 => (if bt547.2 = true then (tenorref6_Add.l0 k bt547.1 (wrap64 (x2 - x9)) x9 x544000 x544001) else (some (0, 51))))
end
def tenorref6_Add.f (k : Nat) (a0_0 : Int) (l0_1 : List (S63)) (a1 : Int) (a2 : Int) : Option (Int × Int) := if a2 = 0 then ((tenorref6_Adjust.f k a0_0 l0_1 a1 1).bind fun bt544 => (some (bt544.1, bt544.2))) else ((tenorref6_asked.f k a0_0 l0_1 a1).bind fun t546 => (if t546 = 0 then (if a2 < 0 then (tenorref6_Add.j0 k a1 a2 (-1) a0_0 l0_1) else (tenorref6_Add.j0 k a1 a2 1 a0_0 l0_1)) else (some (0, t546))))
theorem tenorref6_Add.mono_l : ∀ k, (∀ y0 y1 y2 y3 y4, LeO (tenorref6_Add.j0 k y0 y1 y2 y3 y4) (tenorref6_Add.j0 (k + 1) y0 y1 y2 y3 y4)) ∧ (∀ y0 y1 y2 y3 y4, LeO (tenorref6_Add.l0 k y0 y1 y2 y3 y4) (tenorref6_Add.l0 (k + 1) y0 y1 y2 y3 y4))
  | 0 => ⟨fun _ _ _ _ _ r h => by simp [tenorref6_Add.j0] at h, fun _ _ _ _ _ r h => by simp [tenorref6_Add.l0] at h⟩
  | k + 1 => by
    obtain ⟨ih0, ih1⟩ := tenorref6_Add.mono_l k
    refine ⟨?_, ?_⟩
    · intro y0 y1 y2 y3 y4
      unfold tenorref6_Add.j0
      repeat' first
      | (with_reducible exact ih0 _ _ _ _ _)
      | (with_reducible exact ih1 _ _ _ _ _)
      | (with_reducible exact tenorref6_Adjust.mono _ _ _ _ _)
      | (with_reducible exact tenorref6_asked.mono _ _ _ _)
      | (with_reducible exact tenorref6_search.mono _ _ _ _ _)
      | (with_reducible exact LeO.refl _)
      | (with_reducible exact LeO.none _)
      | (with_reducible refine LeO.ite ?_ ?_)
      | (with_reducible refine LeO.bind ?_ (fun _ => ?_))
      | exact ih0 _ _ _ _ _
      | exact ih1 _ _ _ _ _
      | exact tenorref6_Adjust.mono _ _ _ _ _
      | exact tenorref6_asked.mono _ _ _ _
      | exact tenorref6_search.mono _ _ _ _ _
      | exact LeO.none _
      | refine LeO.ite ?_ ?_
      | refine LeO.bind ?_ (fun _ => ?_)
    · intro y0 y1 y2 y3 y4
      unfold tenorref6_Add.l0
      repeat' first
      | (with_reducible exact ih0 _ _ _ _ _)
      | (with_reducible exact ih1 _ _ _ _ _)
      | (with_reducible exact tenorref6_Adjust.mono _ _ _ _ _)
      | (with_reducible exact tenorref6_asked.mono _ _ _ _)
      | (with_reducible exact tenorref6_search.mono _ _ _ _ _)
      | (with_reducible exact LeO.refl _)
      | (with_reducible exact LeO.none _)
      | (with_reducible refine LeO.ite ?_ ?_)
      | (with_reducible refine LeO.bind ?_ (fun _ => ?_))
      | exact ih0 _ _ _ _ _
      | exact ih1 _ _ _ _ _
      | exact tenorref6_Adjust.mono _ _ _ _ _
      | exact tenorref6_asked.mono _ _ _ _
      | exact tenorref6_search.mono _ _ _ _ _
      | exact LeO.none _
      | refine LeO.ite ?_ ?_
      | refine LeO.bind ?_ (fun _ => ?_)
theorem tenorref6_Add.mono : ∀ a0 a1 a2 a3 k, LeO (tenorref6_Add.f k a0 a1 a2 a3) (tenorref6_Add.f (k + 1) a0 a1 a2 a3) := by
  intro a0 a1 a2 a3 k
  obtain ⟨ih0, ih1⟩ := tenorref6_Add.mono_l k
  unfold tenorref6_Add.f
  repeat' first
      | (with_reducible exact ih0 _ _ _ _ _)
      | (with_reducible exact ih1 _ _ _ _ _)
      | (with_reducible exact tenorref6_Adjust.mono _ _ _ _ _)
      | (with_reducible exact tenorref6_asked.mono _ _ _ _)
      | (with_reducible exact tenorref6_search.mono _ _ _ _ _)
      | (with_reducible exact LeO.refl _)
      | (with_reducible exact LeO.none _)
      | (with_reducible refine LeO.ite ?_ ?_)
      | (with_reducible refine LeO.bind ?_ (fun _ => ?_))
      | exact ih0 _ _ _ _ _
      | exact ih1 _ _ _ _ _
      | exact tenorref6_Adjust.mono _ _ _ _ _
      | exact tenorref6_asked.mono _ _ _ _
      | exact tenorref6_search.mono _ _ _ _ _
      | exact LeO.none _
      | refine LeO.ite ?_ ?_
      | refine LeO.bind ?_ (fun _ => ?_)
set_option maxHeartbeats 8000000 in
set_option maxRecDepth 100000 in
theorem tenorref6_Add.calls (k : Nat) (a0_0 : Int) (A0_1 : Option Addr) (c0_1 : Nat) (l0_1 : List (S63)) (a1 : Int) (a2 : Int) (r1 : Int) (r2 : Int) (w : World) (hr0_1 : Kd.C k63 w A0_1 l0_1.length l0_1) (hc0_1 : l0_1.length ≤ c0_1) (h : tenorref6_Add.f k a0_0 l0_1 a1 a2 = some (r1, r2)) :
    Calls Try.prog 41 #[.agg #[.int .i64 a0_0, .slice A0_1 l0_1.length c0_1], .int .i64 a1, .int .i64 a2] w fun e w' => e = .returned (.tuple #[.int .i64 r1, .int .i64 r2]) ∧ Below w.heap.size w w' := by
  have hu24 := Try.underlying24
  have HR0_1 := Aside0.mk hr0_1
  have HC0_1 := Aside0.mk hc0_1
  clear hr0_1 hc0_1
  have HB := Aside0.mk (Below.refl w.heap.size w)
  have H : (if a2 = 0 then ((tenorref6_Adjust.f k a0_0 l0_1 a1 1).bind fun bt544 => (some (bt544.1, bt544.2))) else ((tenorref6_asked.f k a0_0 l0_1 a1).bind fun t546 => (if t546 = 0 then (if a2 < 0 then (tenorref6_Add.j0 k a1 a2 (-1) a0_0 l0_1) else (tenorref6_Add.j0 k a1 a2 1 a0_0 l0_1)) else (some (0, t546))))) = some (r1, r2) := h
  clear h
  by_cases c4 : a2 = 0
  · rw [if_pos c4] at H
    have c4b0 : (a2 == 0) = true := beq_iff_eq.mpr c4
    have c4b1 : (a2 != 0) = false := bne_eq_false_iff_eq.mpr c4
    clear c4
    replace H := Option.bind_eq_some_iff.mp H
    obtain ⟨⟨t544, t545⟩, A50, H⟩ := H
    replace H : (some (t544, t545)) = some (r1, r2) := H
    have A5 := Aside0.mk A50
    clear A50
    simp only [Option.some.injEq, Prod.mk.injEq] at H
    obtain ⟨rfl, rfl⟩ := H
    go_enter Try.func41, Try.ntmps41
    go_wp2_with (first | ((with_reducible refine gate_dst (N := 3) rfl ?_); refine box_event ?hg (N := 3) ?hd (cs := #[.int .i64 a0_0, .slice A0_1 l0_1.length c0_1]) (t := 24) ?hr ?_; (case hd => rfl); (case hg => rfl); (case hr => first | (go_simp; done) | (go_simp; rfl)); intro gb543 hg w6 hbox hb; have n0_ := Aside0.mk (below_step (by repeat (first | (with_reducible first | exact HB.out | apply below_alloc | apply pw_below_drewN | apply below_drew1) | exact HB.out)) hb); have n1_ := Aside0.mk (hbox); have n2_ := Aside0.mk ((by rw [hg]; exact (below_size (by repeat (first | (with_reducible first | exact HB.out | apply below_alloc | apply pw_below_drewN | apply below_drew1) | exact HB.out))) : w.heap.size ≤ gb543)); have n3_ := Aside0.mk ((by rw [hg]; exact (below_size (by repeat (first | (with_reducible first | exact HB.out | apply below_alloc | apply pw_below_drewN | apply below_drew1) | exact HB.out))) : w.heap.size ≤ gb543)); clear HB; have HB := n0_; have BK543 := n1_; have GW543 := n2_; have GE543 := n3_; clear n0_ n1_ n2_ n3_; clear hb hbox hg; have hcz7_0 : w6.cell? ⟨gb543, 0, none⟩ = some (.int .i64 a0_0) := (blk_cell BK543.out 0).trans rfl; have hcz7_1 : w6.cell? ⟨gb543, 1, none⟩ = some (.slice A0_1 l0_1.length c0_1) := (blk_cell BK543.out 1).trans rfl; have hfz7_0 := blk_frozen BK543.out 0; have hfz7_1 := blk_frozen BK543.out 1) | ((with_reducible refine gate_callee (f := 39) rfl ?_); refine goesL_ (some 16) rfl rfl Try.func39 (by kernel_rfl) rfl #[.agg #[.int .i64 a0_0, .slice A0_1 l0_1.length c0_1], .int .i64 a1, .int .i64 1] rfl (by (try simp only [List.map_toArray, List.map_cons, List.map_nil]); first | done | rfl | (simp only [List.length_drop, List.length_take]; rfl)) ?_; (with_reducible refine (tenorref6_Adjust.calls k a0_0 _ _ l0_1 a1 1 t544 t545 _ ?side1 ?side2 A5.out).mono ?_); (case side1 => repeat (first | exact (Kd.C_below HR0_1.out HB.out) | (with_reducible refine Kd.C_alloc ?_ _) | (with_reducible refine Kd.C_drewN ?_ _) | (with_reducible refine Kd.C_drew ?_))); (case side2 => exact HC0_1.out); rintro e w8 ⟨rfl, hb⟩; refine ⟨_, rfl, ?_⟩; have n0_ := Aside0.mk (blk_below (g := gb543) (o := .cells #[.int .i64 a0_0, .slice A0_1 l0_1.length c0_1] 24 (0, 0)) (by (with_reducible repeat (first | refine blk_drewN ?_ _ | refine blk_drew ?_ | refine blk_alloc ?_ _)); exact BK543.out) hb); have n1_ := Aside0.mk (below_step (by repeat (first | (with_reducible first | exact HB.out | apply below_alloc | apply pw_below_drewN | apply below_drew1 | refine below_set ?_ GE543.out) | exact HB.out)) hb); clear BK543; clear HB; have BK543 := n0_; have HB := n1_; clear n0_ n1_; (try clear hb); (try clear hb2); (try clear hk); (try clear hi)))
    go_ret2
    exact ⟨by first | rfl | (simp [errW_none, errW_some] <;> rfl) | (simp [*, errW_none, errW_some] <;> rfl), by repeat (first | (with_reducible first | exact HB.out | apply below_alloc | apply pw_below_drewN | apply below_drew1 | refine below_set ?_ GE543.out) | exact HB.out)⟩
  · rw [if_neg c4] at H
    have c4b0 : (a2 == 0) = false := beq_eq_false_iff_ne.mpr c4
    have c4b1 : (a2 != 0) = true := bne_iff_ne.mpr c4
    replace H := Option.bind_eq_some_iff.mp H
    obtain ⟨t546, A90, H⟩ := H
    replace H : (if t546 = 0 then (if a2 < 0 then (tenorref6_Add.j0 k a1 a2 (-1) a0_0 l0_1) else (tenorref6_Add.j0 k a1 a2 1 a0_0 l0_1)) else (some (0, t546))) = some (r1, r2) := H
    have A9 := Aside0.mk A90
    clear A90
    by_cases c10 : t546 = 0
    · rw [if_pos c10] at H
      have c10b0 : (t546 == 0) = true := beq_iff_eq.mpr c10
      have c10b1 : (t546 != 0) = false := bne_eq_false_iff_eq.mpr c10
      clear c10
      have HC11 := Aside0.mk H
      clear H
      go_enter Try.func41, Try.ntmps41
      go_upto_if 26 with (first | ((with_reducible refine gate_dst (N := 3) rfl ?_); refine box_event ?hg (N := 3) ?hd (cs := #[.int .i64 a0_0, .slice A0_1 l0_1.length c0_1]) (t := 24) ?hr ?_; (case hd => rfl); (case hg => rfl); (case hr => first | (go_simp; done) | (go_simp; rfl)); intro gb543 hg w12 hbox hb; have n0_ := Aside0.mk (below_step (by repeat (first | (with_reducible first | exact HB.out | apply below_alloc | apply pw_below_drewN | apply below_drew1) | exact HB.out)) hb); have n1_ := Aside0.mk (hbox); have n2_ := Aside0.mk ((by rw [hg]; exact (below_size (by repeat (first | (with_reducible first | exact HB.out | apply below_alloc | apply pw_below_drewN | apply below_drew1) | exact HB.out))) : w.heap.size ≤ gb543)); have n3_ := Aside0.mk ((by rw [hg]; exact (below_size (by repeat (first | (with_reducible first | exact HB.out | apply below_alloc | apply pw_below_drewN | apply below_drew1) | exact HB.out))) : w.heap.size ≤ gb543)); clear HB; have HB := n0_; have BK543 := n1_; have GW543 := n2_; have GE543 := n3_; clear n0_ n1_ n2_ n3_; clear hb hbox hg; have hcz13_0 : w12.cell? ⟨gb543, 0, none⟩ = some (.int .i64 a0_0) := (blk_cell BK543.out 0).trans rfl; have hcz13_1 : w12.cell? ⟨gb543, 1, none⟩ = some (.slice A0_1 l0_1.length c0_1) := (blk_cell BK543.out 1).trans rfl; have hfz13_0 := blk_frozen BK543.out 0; have hfz13_1 := blk_frozen BK543.out 1) | ((with_reducible refine gate_callee (f := 73) rfl ?_); refine goesL_ (some 21) rfl rfl Try.func73 (by kernel_rfl) rfl #[.agg #[.int .i64 a0_0, .slice A0_1 l0_1.length c0_1], .int .i64 a1] rfl (by (try simp only [List.map_toArray, List.map_cons, List.map_nil]); first | done | rfl | (simp only [List.length_drop, List.length_take]; rfl)) ?_; (with_reducible refine (tenorref6_asked.calls k a0_0 _ _ l0_1 a1 t546 _ ?side1 ?side2 A9.out).mono ?_); (case side1 => repeat (first | exact (Kd.C_below HR0_1.out HB.out) | (with_reducible refine Kd.C_alloc ?_ _) | (with_reducible refine Kd.C_drewN ?_ _) | (with_reducible refine Kd.C_drew ?_))); (case side2 => exact HC0_1.out); rintro e w14 ⟨rfl, hb⟩; refine ⟨_, rfl, ?_⟩; have n0_ := Aside0.mk (blk_below (g := gb543) (o := .cells #[.int .i64 a0_0, .slice A0_1 l0_1.length c0_1] 24 (0, 0)) (by (with_reducible repeat (first | refine blk_drewN ?_ _ | refine blk_drew ?_ | refine blk_alloc ?_ _)); exact BK543.out) hb); have n1_ := Aside0.mk (below_step (by repeat (first | (with_reducible first | exact HB.out | apply below_alloc | apply pw_below_drewN | apply below_drew1 | refine below_set ?_ GE543.out) | exact HB.out)) hb); clear BK543; clear HB; have BK543 := n0_; have HB := n1_; clear n0_ n1_; (try clear hb); (try clear hb2); (try clear hk); (try clear hi)))
      (try simp only [Act.put, List.setIfInBounds_toArray, List.set_cons_zero, List.set_cons_succ])
      go_cut [9] (fun v9 wc => ∃ (kq : Nat) (x9_10 : Int), v9 = .int .i64 x9_10 ∧ Aside0 (tenorref6_Add.j0 kq a1 a2 x9_10 a0_0 l0_1 = some (r1, r2)) ∧ Aside0 (kq ≤ k) ∧ Aside0 (wc.heap[gb543]? = some (.cells #[.int .i64 a0_0, (.slice A0_1 l0_1.length c0_1)] 24 (0, 0))) ∧ Aside0 (Below w.heap.size w wc))
      case first =>
        have H := HC11.out
        clear HC11
        by_cases c15 : a2 < 0
        · rw [if_pos c15] at H
          have c15b0 : decide (a2 < 0) = true := decide_eq_true c15
          clear c15
          (first | rw [c15b0] | (simp only [i64_w, i32_w]; rw [c15b0]) | skip)
          have H' := Aside0.mk H
          clear H
          go_wp2
          go_meet
          case rel => exact ⟨_, ((-1)), (by first | rfl | (simp; done) | (simp [*]; done)), H', ⟨by first | omega | exact Nat.le_refl _⟩, ⟨by (with_reducible repeat (first | refine blk_drewN ?_ _ | refine blk_drew ?_ | refine blk_alloc ?_ _)); exact BK543.out⟩, ⟨by repeat (first | (with_reducible first | exact HB.out | apply below_alloc | apply pw_below_drewN | apply below_drew1 | refine below_set ?_ GE543.out) | exact HB.out)⟩⟩
        · rw [if_neg c15] at H
          have c15b0 : decide (a2 < 0) = false := decide_eq_false c15
          clear c15
          (first | rw [c15b0] | (simp only [i64_w, i32_w]; rw [c15b0]) | skip)
          have H' := Aside0.mk H
          clear H
          go_wp2
          go_meet
          case rel => exact ⟨_, (1), (by first | rfl | (simp; done) | (simp [*]; done)), H', ⟨by first | omega | exact Nat.le_refl _⟩, ⟨by (with_reducible repeat (first | refine blk_drewN ?_ _ | refine blk_drew ?_ | refine blk_alloc ?_ _)); exact BK543.out⟩, ⟨by repeat (first | (with_reducible first | exact HB.out | apply below_alloc | apply pw_below_drewN | apply below_drew1 | refine below_set ?_ GE543.out) | exact HB.out)⟩⟩
      case rest =>
        clear HC11
        try clear c1
        try clear p2
        try clear c3
        try clear c4
        try clear c4b0
        try clear c4b1
        try clear c7
        try clear c10
        try clear c10b0
        try clear c10b1
        try clear c15
        try clear c15b0
        try clear hcz13_0
        try clear hcz13_1
        try clear hcz7_0
        try clear hcz7_1
        try clear hfz13_0
        try clear hfz13_1
        try clear hfz7_0
        try clear hfz7_1
        obtain ⟨kq, x9_10, rfl, HA, HJ10, BK543, HB⟩ := hcut
        cases kq with
        | zero => exact absurd HA.out (by simp [tenorref6_Add.j0])
        | succ kj10 =>
          have H := HA.out
          clear HA
          simp only [tenorref6_Add.j0] at H
          have H' := Aside0.mk H
          clear H
          go_wp2
          go_loopg [1, 2] kj10 (fun kq v1 v2 w' => ∃ (x1_2 : Int) (x2_2 : Int), v1 = .int .i64 x1_2 ∧ v2 = .int .i64 x2_2 ∧ Aside0 (tenorref6_Add.l0 kq x1_2 x2_2 x9_10 a0_0 l0_1 = some (r1, r2)) ∧ Aside0 (kq ≤ kj10) ∧ Aside0 (w'.heap[gb543]? = some (.cells #[.int .i64 a0_0, (.slice A0_1 l0_1.length c0_1)] 24 (0, 0))) ∧ Aside0 (Below w.heap.size w w'))
          case atStart => exact ⟨(a1), (a2), (by first | rfl | (simp; done) | (simp [*]; done)), (by first | rfl | (simp; done) | (simp [*]; done)), H', ⟨Nat.le_refl _⟩, ⟨by (with_reducible repeat (first | refine blk_drewN ?_ _ | refine blk_drew ?_ | refine blk_alloc ?_ _)); exact BK543.out⟩, ⟨by repeat (first | (with_reducible first | exact HB.out | apply below_alloc | apply pw_below_drewN | apply below_drew1 | refine below_set ?_ GE543.out) | exact HB.out)⟩⟩
          case round =>
            clear H'
            try clear c1
            try clear p2
            try clear c3
            try clear c4
            try clear c4b0
            try clear c4b1
            try clear c7
            try clear c10
            try clear c10b0
            try clear c10b1
            try clear c15
            try clear c15b0
            try clear hcz13_0
            try clear hcz13_1
            try clear hcz7_0
            try clear hcz7_1
            try clear hfz13_0
            try clear hfz13_1
            try clear hfz7_0
            try clear hfz7_1
            try clear p2
            obtain ⟨x1_2, x2_2, rfl, rfl, HA, HK2, BK543, HB⟩ := hrel
            cases gk with
            | zero => exact absurd HA.out (by simp [tenorref6_Add.l0])
            | succ k2 =>
              have H := HA.out
              clear HA
              simp only [tenorref6_Add.l0] at H
              by_cases c16 : x2_2 = 0
              · rw [if_pos c16] at H
                have c16b0 : (x2_2 == 0) = true := beq_iff_eq.mpr c16
                have c16b1 : (x2_2 != 0) = false := bne_eq_false_iff_eq.mpr c16
                clear c16
                simp only [Option.some.injEq, Prod.mk.injEq] at H
                obtain ⟨rfl, rfl⟩ := H
                go_wp2
                go_ret2
                exact ⟨by first | rfl | (simp [errW_none, errW_some] <;> rfl) | (simp [*, errW_none, errW_some] <;> rfl), by repeat (first | (with_reducible first | exact HB.out | apply below_alloc | apply pw_below_drewN | apply below_drew1 | refine below_set ?_ GE543.out) | exact HB.out)⟩
              · rw [if_neg c16] at H
                have c16b0 : (x2_2 == 0) = false := beq_eq_false_iff_ne.mpr c16
                have c16b1 : (x2_2 != 0) = true := bne_iff_ne.mpr c16
                replace H := Option.bind_eq_some_iff.mp H
                obtain ⟨⟨t547, t548⟩, A170, H⟩ := H
                replace H : (if t548 = true then (tenorref6_Add.l0 k2 t547 (wrap64 (x2_2 - x9_10)) x9_10 a0_0 l0_1) else (some (0, 51))) = some (r1, r2) := H
                have A17 := Aside0.mk A170
                clear A170
                by_cases c18 : t548 = true
                · subst c18
                  have H1 : (tenorref6_Add.l0 k2 t547 (wrap64 (x2_2 - x9_10)) x9_10 a0_0 l0_1) = some (r1, r2) := by rw [if_pos rfl] at H; exact H
                  clear H
                  have H := H1
                  clear H1
                  have H' := Aside0.mk H
                  clear H
                  have hcz19_0 : wr.cell? ⟨gb543, 0, none⟩ = some (.int .i64 a0_0) := (blk_cell BK543.out 0).trans rfl
                  have hcz19_1 : wr.cell? ⟨gb543, 1, none⟩ = some (.slice A0_1 l0_1.length c0_1) := (blk_cell BK543.out 1).trans rfl
                  have hfz19_0 := blk_frozen BK543.out 0
                  have hfz19_1 := blk_frozen BK543.out 1
                  go_wp2_with (first | ((with_reducible refine gate_callee (f := 81) rfl ?_); refine goesL_ (some 35) rfl rfl Try.func81 (by kernel_rfl) rfl #[.agg #[.int .i64 a0_0, .slice A0_1 l0_1.length c0_1], .int .i64 (wrap64 (x1_2 + x9_10)), .int .i64 x9_10] rfl (by (try simp only [List.map_toArray, List.map_cons, List.map_nil]); first | done | rfl | (simp only [List.length_drop, List.length_take]; rfl)) ?_; (with_reducible refine (tenorref6_search.calls k2 a0_0 _ _ l0_1 (wrap64 (x1_2 + x9_10)) x9_10 t547 true _ ?side1 ?side2 A17.out).mono ?_); (case side1 => repeat (first | exact (Kd.C_below HR0_1.out HB.out) | (with_reducible refine Kd.C_alloc ?_ _) | (with_reducible refine Kd.C_drewN ?_ _) | (with_reducible refine Kd.C_drew ?_))); (case side2 => exact HC0_1.out); rintro e w20 ⟨rfl, hb⟩; refine ⟨_, rfl, ?_⟩; have n0_ := Aside0.mk (blk_below (g := gb543) (o := .cells #[.int .i64 a0_0, .slice A0_1 l0_1.length c0_1] 24 (0, 0)) (by (with_reducible repeat (first | refine blk_drewN ?_ _ | refine blk_drew ?_ | refine blk_alloc ?_ _)); exact BK543.out) hb); have n1_ := Aside0.mk (below_step (by repeat (first | (with_reducible first | exact HB.out | apply below_alloc | apply pw_below_drewN | apply below_drew1 | refine below_set ?_ GE543.out) | exact HB.out)) hb); clear BK543; clear HB; have BK543 := n0_; have HB := n1_; clear n0_ n1_; (try clear hb); (try clear hb2); (try clear hk); (try clear hi)))
                  go_roundg k2
                  case measure => have := HJ10.out; have := HK2.out; omega
                  case rel => exact ⟨(t547), (wrap64 (x2_2 - x9_10)), (by first | rfl | (simp; done) | (simp [*]; done)), (by first | rfl | (simp; done) | (simp [*]; done)), H', ⟨by have := HJ10.out; have := HK2.out; omega⟩, ⟨by (with_reducible repeat (first | refine blk_drewN ?_ _ | refine blk_drew ?_ | refine blk_alloc ?_ _)); exact BK543.out⟩, ⟨by repeat (first | (with_reducible first | exact HB.out | apply below_alloc | apply pw_below_drewN | apply below_drew1 | refine below_set ?_ GE543.out) | exact HB.out)⟩⟩
                · replace c18 := Bool.eq_false_iff.mpr c18
                  subst c18
                  have H1 : (some (0, 51)) = some (r1, r2) := by rw [if_neg (show ¬ (false = true) by decide)] at H; exact H
                  clear H
                  have H := H1
                  clear H1
                  simp only [Option.some.injEq, Prod.mk.injEq] at H
                  obtain ⟨rfl, rfl⟩ := H
                  have hcz21_0 : wr.cell? ⟨gb543, 0, none⟩ = some (.int .i64 a0_0) := (blk_cell BK543.out 0).trans rfl
                  have hcz21_1 : wr.cell? ⟨gb543, 1, none⟩ = some (.slice A0_1 l0_1.length c0_1) := (blk_cell BK543.out 1).trans rfl
                  have hfz21_0 := blk_frozen BK543.out 0
                  have hfz21_1 := blk_frozen BK543.out 1
                  go_wp2_with (first | ((with_reducible refine gate_callee (f := 81) rfl ?_); refine goesL_ (some 35) rfl rfl Try.func81 (by kernel_rfl) rfl #[.agg #[.int .i64 a0_0, .slice A0_1 l0_1.length c0_1], .int .i64 (wrap64 (x1_2 + x9_10)), .int .i64 x9_10] rfl (by (try simp only [List.map_toArray, List.map_cons, List.map_nil]); first | done | rfl | (simp only [List.length_drop, List.length_take]; rfl)) ?_; (with_reducible refine (tenorref6_search.calls k2 a0_0 _ _ l0_1 (wrap64 (x1_2 + x9_10)) x9_10 t547 false _ ?side1 ?side2 A17.out).mono ?_); (case side1 => repeat (first | exact (Kd.C_below HR0_1.out HB.out) | (with_reducible refine Kd.C_alloc ?_ _) | (with_reducible refine Kd.C_drewN ?_ _) | (with_reducible refine Kd.C_drew ?_))); (case side2 => exact HC0_1.out); rintro e w22 ⟨rfl, hb⟩; refine ⟨_, rfl, ?_⟩; have n0_ := Aside0.mk (blk_below (g := gb543) (o := .cells #[.int .i64 a0_0, .slice A0_1 l0_1.length c0_1] 24 (0, 0)) (by (with_reducible repeat (first | refine blk_drewN ?_ _ | refine blk_drew ?_ | refine blk_alloc ?_ _)); exact BK543.out) hb); have n1_ := Aside0.mk (below_step (by repeat (first | (with_reducible first | exact HB.out | apply below_alloc | apply pw_below_drewN | apply below_drew1 | refine below_set ?_ GE543.out) | exact HB.out)) hb); clear BK543; clear HB; have BK543 := n0_; have HB := n1_; clear n0_ n1_; (try clear hb); (try clear hb2); (try clear hk); (try clear hi)))
                  go_ret2
                  exact ⟨by first | rfl | (simp [errW_none, errW_some] <;> rfl) | (simp [*, errW_none, errW_some] <;> rfl), by repeat (first | (with_reducible first | exact HB.out | apply below_alloc | apply pw_below_drewN | apply below_drew1 | refine below_set ?_ GE543.out) | exact HB.out)⟩
    · rw [if_neg c10] at H
      have c10b0 : (t546 == 0) = false := beq_eq_false_iff_ne.mpr c10
      have c10b1 : (t546 != 0) = true := bne_iff_ne.mpr c10
      simp only [Option.some.injEq, Prod.mk.injEq] at H
      obtain ⟨rfl, rfl⟩ := H
      go_enter Try.func41, Try.ntmps41
      go_wp2_with (first | ((with_reducible refine gate_dst (N := 3) rfl ?_); refine box_event ?hg (N := 3) ?hd (cs := #[.int .i64 a0_0, .slice A0_1 l0_1.length c0_1]) (t := 24) ?hr ?_; (case hd => rfl); (case hg => rfl); (case hr => first | (go_simp; done) | (go_simp; rfl)); intro gb543 hg w23 hbox hb; have n0_ := Aside0.mk (below_step (by repeat (first | (with_reducible first | exact HB.out | apply below_alloc | apply pw_below_drewN | apply below_drew1) | exact HB.out)) hb); have n1_ := Aside0.mk (hbox); have n2_ := Aside0.mk ((by rw [hg]; exact (below_size (by repeat (first | (with_reducible first | exact HB.out | apply below_alloc | apply pw_below_drewN | apply below_drew1) | exact HB.out))) : w.heap.size ≤ gb543)); have n3_ := Aside0.mk ((by rw [hg]; exact (below_size (by repeat (first | (with_reducible first | exact HB.out | apply below_alloc | apply pw_below_drewN | apply below_drew1) | exact HB.out))) : w.heap.size ≤ gb543)); clear HB; have HB := n0_; have BK543 := n1_; have GW543 := n2_; have GE543 := n3_; clear n0_ n1_ n2_ n3_; clear hb hbox hg; have hcz24_0 : w23.cell? ⟨gb543, 0, none⟩ = some (.int .i64 a0_0) := (blk_cell BK543.out 0).trans rfl; have hcz24_1 : w23.cell? ⟨gb543, 1, none⟩ = some (.slice A0_1 l0_1.length c0_1) := (blk_cell BK543.out 1).trans rfl; have hfz24_0 := blk_frozen BK543.out 0; have hfz24_1 := blk_frozen BK543.out 1) | ((with_reducible refine gate_callee (f := 73) rfl ?_); refine goesL_ (some 21) rfl rfl Try.func73 (by kernel_rfl) rfl #[.agg #[.int .i64 a0_0, .slice A0_1 l0_1.length c0_1], .int .i64 a1] rfl (by (try simp only [List.map_toArray, List.map_cons, List.map_nil]); first | done | rfl | (simp only [List.length_drop, List.length_take]; rfl)) ?_; (with_reducible refine (tenorref6_asked.calls k a0_0 _ _ l0_1 a1 t546 _ ?side1 ?side2 A9.out).mono ?_); (case side1 => repeat (first | exact (Kd.C_below HR0_1.out HB.out) | (with_reducible refine Kd.C_alloc ?_ _) | (with_reducible refine Kd.C_drewN ?_ _) | (with_reducible refine Kd.C_drew ?_))); (case side2 => exact HC0_1.out); rintro e w25 ⟨rfl, hb⟩; refine ⟨_, rfl, ?_⟩; have n0_ := Aside0.mk (blk_below (g := gb543) (o := .cells #[.int .i64 a0_0, .slice A0_1 l0_1.length c0_1] 24 (0, 0)) (by (with_reducible repeat (first | refine blk_drewN ?_ _ | refine blk_drew ?_ | refine blk_alloc ?_ _)); exact BK543.out) hb); have n1_ := Aside0.mk (below_step (by repeat (first | (with_reducible first | exact HB.out | apply below_alloc | apply pw_below_drewN | apply below_drew1 | refine below_set ?_ GE543.out) | exact HB.out)) hb); clear BK543; clear HB; have BK543 := n0_; have HB := n1_; clear n0_ n1_; (try clear hb); (try clear hb2); (try clear hk); (try clear hi)))
      go_ret2
      exact ⟨by first | rfl | (simp [errW_none, errW_some] <;> rfl) | (simp [*, errW_none, errW_some] <;> rfl), by repeat (first | (with_reducible first | exact HB.out | apply below_alloc | apply pw_below_drewN | apply below_drew1 | refine below_set ?_ GE543.out) | exact HB.out)⟩

end Go.Proofs.Ytoncignjcgjhhaa.Q
