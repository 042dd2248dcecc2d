/- Contracts and facts of functions of the program (calendar, dates and their documents), joined in one text by a program of this session. No condition but what each theorem states. -/
import Derived.Test.YtoncignjcgjhhaaZGA
import Derived.Test.YtoncignjcgjhhaaZGG
import Derived.Test.YtoncignjcgjhhaaZGK
import Derived.Test.YtoncignjcgjhhaaZGL
import Derived.Test.YtoncignjcgjhhaaZGH
import Derived.Test.YtoncignjcgjhhaaZGD
import Derived.Test.YtoncignjcgjhhaaZGI
import Derived.Test.YtoncignjcgjhhaaZGJ
import Derived.Test.YtoncignjcgjhhaaZGE
set_option linter.unusedVariables false
set_option linter.unusedSimpArgs false
namespace Go.Proofs.Ytoncignjcgjhhaa.Q
open Go.RowKit Go.Proofs.YtoncignjcgjhhaaW.PrintWords Go.Proofs.YtoncignjcgjhhaaW.PrintLast Go.Proofs.YtoncignjcgjhhaaW.PrintMore
attribute [local go_sem] max2_int min2_int max_two min_two max_three min_three max_four min_four   -- for this text's walks alone
set_option linter.unusedVariables false
set_option linter.unusedSimpArgs false

/-! ### tenorlaw6_CalDays: function 8 -/
def tenorlaw6_CalDays.f (k : Nat) (a0_0 : Int) (l0_1 : List (S63)) (a1 : Int) : Option (Bool) := if (l0_1.length : Int) > 64 then ((tenorlaw6_awake.f).bind fun t503 => (some t503)) else ((cal_Open.f a0_0 l0_1 a1).bind fun bt504 => ((tenorref6_Open.f k a0_0 l0_1 a1).bind fun bt506 => ((cal_Holiday.f a0_0 l0_1 a1).bind fun bt508 => ((tenorref6_Holiday.f k a0_0 l0_1 a1).bind fun bt510 => (if (bt504.1 == bt506.1) = true then (if bt504.2 = bt506.2 then (if (bt508.1 == bt510.1) = true then (if bt508.2 = bt510.2 then ((tenorlaw6_awake.f).bind fun t512 => (some t512)) else (some false)) else (some false)) else (some false)) else (some false))))))
theorem tenorlaw6_CalDays.mono : ∀ a0 a1 a2 k, LeO (tenorlaw6_CalDays.f k a0 a1 a2) (tenorlaw6_CalDays.f (k + 1) a0 a1 a2) := by
  intro a0 a1 a2 k
  unfold tenorlaw6_CalDays.f
  repeat' first
      | (with_reducible exact tenorref6_Holiday.mono _ _ _ _)
      | (with_reducible exact tenorref6_Open.mono _ _ _ _)
      | (with_reducible exact LeO.refl _)
      | (with_reducible exact LeO.none _)
      | (with_reducible refine LeO.ite ?_ ?_)
      | (with_reducible refine LeO.bind ?_ (fun _ => ?_))
      | exact tenorref6_Holiday.mono _ _ _ _
      | exact tenorref6_Open.mono _ _ _ _
      | exact LeO.none _
      | refine LeO.ite ?_ ?_
      | refine LeO.bind ?_ (fun _ => ?_)
set_option maxHeartbeats 8000000 in
set_option maxRecDepth 100000 in
theorem tenorlaw6_CalDays.calls (k : Nat) (a0_0 : Int) (A0_1 : Option Addr) (c0_1 : Nat) (l0_1 : List (S63)) (a1 : Int) (r : Bool) (w : World) (hr0_1 : Kd.C k63 w A0_1 l0_1.length l0_1) (hc0_1 : l0_1.length ≤ c0_1) (h : tenorlaw6_CalDays.f k a0_0 l0_1 a1 = some r) (HT : r = true) :
    Calls Try.prog 8 #[.agg #[.int .i64 a0_0, .slice A0_1 l0_1.length c0_1], .int .i64 a1] w fun e w' => e = .returned (.bool r) ∧ Below w.heap.size w w' := by
  have hu24 := Try.underlying24
  have HR0_1 := Aside0.mk hr0_1
  have HC0_1 := Aside0.mk hc0_1
  clear hr0_1 hc0_1
  have HB := Aside0.mk (Below.refl w.heap.size w)
  have H : (if (l0_1.length : Int) > 64 then ((tenorlaw6_awake.f).bind fun t503 => (some t503)) else ((cal_Open.f a0_0 l0_1 a1).bind fun bt504 => ((tenorref6_Open.f k a0_0 l0_1 a1).bind fun bt506 => ((cal_Holiday.f a0_0 l0_1 a1).bind fun bt508 => ((tenorref6_Holiday.f k a0_0 l0_1 a1).bind fun bt510 => (if (bt504.1 == bt506.1) = true then (if bt504.2 = bt506.2 then (if (bt508.1 == bt510.1) = true then (if bt508.2 = bt510.2 then ((tenorlaw6_awake.f).bind fun t512 => (some t512)) else (some false)) else (some false)) else (some false)) else (some false))))))) = some r := h
  clear h
  by_cases c3 : (l0_1.length : Int) > 64
  · rw [if_pos c3] at H
    have c3b0 : decide (64 < (l0_1.length : Int)) = true := decide_eq_true c3
    have c3b1 : decide (64 < l0_1.length) = true := decide_eq_true (by omega)
    clear c3
    replace H := Option.bind_eq_some_iff.mp H
    obtain ⟨t503, A40, H⟩ := H
    replace H : (some t503) = some r := H
    have A4 := Aside0.mk A40
    clear A40
    obtain rfl := Option.some.inj H
    go_enter Try.func8, Try.ntmps8
    go_wp2_with (first | ((with_reducible refine gate_dst (N := 2) rfl ?_); refine box_event ?hg (N := 2) ?hd (cs := #[.int .i64 a0_0, .slice A0_1 l0_1.length c0_1]) (t := 24) ?hr ?_; (case hd => rfl); (case hg => rfl); (case hr => first | (go_simp; done) | (go_simp; rfl)); intro gb502 hg w5 hbox hb; have n0_ := Aside0.mk (below_step (by repeat (first | (with_reducible first | exact HB.out | apply below_alloc | apply pw_below_drewN | apply below_drew1) | exact HB.out)) hb); have n1_ := Aside0.mk (hbox); have n2_ := Aside0.mk ((by rw [hg]; exact (below_size (by repeat (first | (with_reducible first | exact HB.out | apply below_alloc | apply pw_below_drewN | apply below_drew1) | exact HB.out))) : w.heap.size ≤ gb502)); have n3_ := Aside0.mk ((by rw [hg]; exact (below_size (by repeat (first | (with_reducible first | exact HB.out | apply below_alloc | apply pw_below_drewN | apply below_drew1) | exact HB.out))) : w.heap.size ≤ gb502)); clear HB; have HB := n0_; have BK502 := n1_; have GW502 := n2_; have GE502 := n3_; clear n0_ n1_ n2_ n3_; clear hb hbox hg; have hcz6_0 : w5.cell? ⟨gb502, 0, none⟩ = some (.int .i64 a0_0) := (blk_cell BK502.out 0).trans rfl; have hcz6_1 : w5.cell? ⟨gb502, 1, none⟩ = some (.slice A0_1 l0_1.length c0_1) := (blk_cell BK502.out 1).trans rfl; have hfz6_0 := blk_frozen BK502.out 0; have hfz6_1 := blk_frozen BK502.out 1) | ((with_reducible refine gate_callee (f := 32) rfl ?_); refine goesL_ (some 17) rfl rfl Try.func32 (by kernel_rfl) rfl #[] rfl (by (try simp only [List.map_toArray, List.map_cons, List.map_nil]); first | done | rfl | (simp only [List.length_drop, List.length_take]; rfl)) ?_; (with_reducible refine (tenorlaw6_awake.calls  t503 _ A4.out).mono ?_); rintro e w7 ⟨rfl, hb⟩; refine ⟨_, rfl, ?_⟩; have n0_ := Aside0.mk (blk_below (g := gb502) (o := .cells #[.int .i64 a0_0, .slice A0_1 l0_1.length c0_1] 24 (0, 0)) (by (with_reducible repeat (first | refine blk_drewN ?_ _ | refine blk_drew ?_ | refine blk_alloc ?_ _)); exact BK502.out) hb); have n1_ := Aside0.mk (below_step (by repeat (first | (with_reducible first | exact HB.out | apply below_alloc | apply pw_below_drewN | apply below_drew1 | refine below_set ?_ GE502.out) | exact HB.out)) hb); clear BK502; clear HB; have BK502 := n0_; have HB := n1_; clear n0_ n1_; (try clear hb); (try clear hb2); (try clear hk); (try clear hi)))
    go_ret
    exact ⟨by first | rfl | (simp [errW_none, errW_some] <;> rfl) | (simp [*, errW_none, errW_some] <;> rfl), by repeat (first | (with_reducible first | exact HB.out | apply below_alloc | apply pw_below_drewN | apply below_drew1 | refine below_set ?_ GE502.out) | exact HB.out)⟩
  · rw [if_neg c3] at H
    have c3b0 : decide (64 < (l0_1.length : Int)) = false := decide_eq_false c3
    have c3b1 : decide (64 < l0_1.length) = false := decide_eq_false (by omega)
    clear c3
    replace H := Option.bind_eq_some_iff.mp H
    obtain ⟨⟨t504, t505⟩, A80, H⟩ := H
    replace H : ((tenorref6_Open.f k a0_0 l0_1 a1).bind fun bt506 => ((cal_Holiday.f a0_0 l0_1 a1).bind fun bt508 => ((tenorref6_Holiday.f k a0_0 l0_1 a1).bind fun bt510 => (if (t504 == bt506.1) = true then (if t505 = bt506.2 then (if (bt508.1 == bt510.1) = true then (if bt508.2 = bt510.2 then ((tenorlaw6_awake.f).bind fun t512 => (some t512)) else (some false)) else (some false)) else (some false)) else (some false))))) = some r := H
    have A8 := Aside0.mk A80
    clear A80
    replace H := Option.bind_eq_some_iff.mp H
    obtain ⟨⟨t506, t507⟩, A90, H⟩ := H
    replace H : ((cal_Holiday.f a0_0 l0_1 a1).bind fun bt508 => ((tenorref6_Holiday.f k a0_0 l0_1 a1).bind fun bt510 => (if (t504 == t506) = true then (if t505 = t507 then (if (bt508.1 == bt510.1) = true then (if bt508.2 = bt510.2 then ((tenorlaw6_awake.f).bind fun t512 => (some t512)) else (some false)) else (some false)) else (some false)) else (some false)))) = some r := H
    have A9 := Aside0.mk A90
    clear A90
    replace H := Option.bind_eq_some_iff.mp H
    obtain ⟨⟨t508, t509⟩, A100, H⟩ := H
    replace H : ((tenorref6_Holiday.f k a0_0 l0_1 a1).bind fun bt510 => (if (t504 == t506) = true then (if t505 = t507 then (if (t508 == bt510.1) = true then (if t509 = bt510.2 then ((tenorlaw6_awake.f).bind fun t512 => (some t512)) else (some false)) else (some false)) else (some false)) else (some false))) = some r := H
    have A10 := Aside0.mk A100
    clear A100
    replace H := Option.bind_eq_some_iff.mp H
    obtain ⟨⟨t510, t511⟩, A110, H⟩ := H
    replace H : (if (t504 == t506) = true then (if t505 = t507 then (if (t508 == t510) = true then (if t509 = t511 then ((tenorlaw6_awake.f).bind fun t512 => (some t512)) else (some false)) else (some false)) else (some false)) else (some false)) = some r := H
    have A11 := Aside0.mk A110
    clear A110
    by_cases c12 : (t504 == t506) = true
    · rw [if_pos c12] at H
      have c12b0 : (t504 == t506) = true := c12
      (try (have c12b1 : decide (t504 = t506) = true := by simpa using c12))
      (try (have c12b2 : (t504 == t506) = true := by simpa using c12))
      clear c12
      by_cases c13 : t505 = t507
      · rw [if_pos c13] at H
        have c13b0 : (t505 == t507) = true := beq_iff_eq.mpr c13
        have c13b1 : (t505 != t507) = false := bne_eq_false_iff_eq.mpr c13
        clear c13
        by_cases c14 : (t508 == t510) = true
        · rw [if_pos c14] at H
          have c14b0 : (t508 == t510) = true := c14
          (try (have c14b1 : decide (t508 = t510) = true := by simpa using c14))
          (try (have c14b2 : (t508 == t510) = true := by simpa using c14))
          clear c14
          by_cases c15 : t509 = t511
          · rw [if_pos c15] at H
            have c15b0 : (t509 == t511) = true := beq_iff_eq.mpr c15
            have c15b1 : (t509 != t511) = false := bne_eq_false_iff_eq.mpr c15
            clear c15
            replace H := Option.bind_eq_some_iff.mp H
            obtain ⟨t512, A160, H⟩ := H
            replace H : (some t512) = some r := H
            have A16 := Aside0.mk A160
            clear A160
            obtain rfl := Option.some.inj H
            go_enter Try.func8, Try.ntmps8
            go_wp2_with (first | ((with_reducible refine gate_dst (N := 2) rfl ?_); refine box_event ?hg (N := 2) ?hd (cs := #[.int .i64 a0_0, .slice A0_1 l0_1.length c0_1]) (t := 24) ?hr ?_; (case hd => rfl); (case hg => rfl); (case hr => first | (go_simp; done) | (go_simp; rfl)); intro gb502 hg w17 hbox hb; have n0_ := Aside0.mk (below_step (by repeat (first | (with_reducible first | exact HB.out | apply below_alloc | apply pw_below_drewN | apply below_drew1) | exact HB.out)) hb); have n1_ := Aside0.mk (hbox); have n2_ := Aside0.mk ((by rw [hg]; exact (below_size (by repeat (first | (with_reducible first | exact HB.out | apply below_alloc | apply pw_below_drewN | apply below_drew1) | exact HB.out))) : w.heap.size ≤ gb502)); have n3_ := Aside0.mk ((by rw [hg]; exact (below_size (by repeat (first | (with_reducible first | exact HB.out | apply below_alloc | apply pw_below_drewN | apply below_drew1) | exact HB.out))) : w.heap.size ≤ gb502)); clear HB; have HB := n0_; have BK502 := n1_; have GW502 := n2_; have GE502 := n3_; clear n0_ n1_ n2_ n3_; clear hb hbox hg; have hcz18_0 : w17.cell? ⟨gb502, 0, none⟩ = some (.int .i64 a0_0) := (blk_cell BK502.out 0).trans rfl; have hcz18_1 : w17.cell? ⟨gb502, 1, none⟩ = some (.slice A0_1 l0_1.length c0_1) := (blk_cell BK502.out 1).trans rfl; have hfz18_0 := blk_frozen BK502.out 0; have hfz18_1 := blk_frozen BK502.out 1) | ((with_reducible refine gate_callee (f := 33) rfl ?_); refine goesL_ (some 21) rfl rfl Try.func33 (by kernel_rfl) rfl #[.agg #[.int .i64 a0_0, .slice A0_1 l0_1.length c0_1], .int .i64 a1] rfl (by (try simp only [List.map_toArray, List.map_cons, List.map_nil]); first | done | rfl | (simp only [List.length_drop, List.length_take]; rfl)) ?_; (with_reducible refine (cal_Open.calls a0_0 _ _ l0_1 a1 t504 t505 _ ?side1 ?side2 A8.out).mono ?_); (case side1 => repeat (first | exact (Kd.C_below HR0_1.out HB.out) | (with_reducible refine Kd.C_alloc ?_ _) | (with_reducible refine Kd.C_drewN ?_ _) | (with_reducible refine Kd.C_drew ?_))); (case side2 => exact HC0_1.out); rintro e w19 ⟨rfl, hb⟩; refine ⟨_, rfl, ?_⟩; have n0_ := Aside0.mk (blk_below (g := gb502) (o := .cells #[.int .i64 a0_0, .slice A0_1 l0_1.length c0_1] 24 (0, 0)) (by (with_reducible repeat (first | refine blk_drewN ?_ _ | refine blk_drew ?_ | refine blk_alloc ?_ _)); exact BK502.out) hb); have n1_ := Aside0.mk (below_step (by repeat (first | (with_reducible first | exact HB.out | apply below_alloc | apply pw_below_drewN | apply below_drew1 | refine below_set ?_ GE502.out) | exact HB.out)) hb); clear BK502; clear HB; have BK502 := n0_; have HB := n1_; clear n0_ n1_; (try clear hb); (try clear hb2); (try clear hk); (try clear hi); have hcz20_0 : w19.cell? ⟨gb502, 0, none⟩ = some (.int .i64 a0_0) := (blk_cell BK502.out 0).trans rfl; have hcz20_1 : w19.cell? ⟨gb502, 1, none⟩ = some (.slice A0_1 l0_1.length c0_1) := (blk_cell BK502.out 1).trans rfl; have hfz20_0 := blk_frozen BK502.out 0; have hfz20_1 := blk_frozen BK502.out 1) | ((with_reducible refine gate_callee (f := 34) rfl ?_); refine goesL_ (some 27) rfl rfl Try.func34 (by kernel_rfl) rfl #[.agg #[.int .i64 a0_0, .slice A0_1 l0_1.length c0_1], .int .i64 a1] rfl (by (try simp only [List.map_toArray, List.map_cons, List.map_nil]); first | done | rfl | (simp only [List.length_drop, List.length_take]; rfl)) ?_; (with_reducible refine (tenorref6_Open.calls k a0_0 _ _ l0_1 a1 t506 t507 _ ?side1 ?side2 A9.out).mono ?_); (case side1 => repeat (first | exact (Kd.C_below HR0_1.out HB.out) | (with_reducible refine Kd.C_alloc ?_ _) | (with_reducible refine Kd.C_drewN ?_ _) | (with_reducible refine Kd.C_drew ?_))); (case side2 => exact HC0_1.out); rintro e w21 ⟨rfl, hb⟩; refine ⟨_, rfl, ?_⟩; have n0_ := Aside0.mk (blk_below (g := gb502) (o := .cells #[.int .i64 a0_0, .slice A0_1 l0_1.length c0_1] 24 (0, 0)) (by (with_reducible repeat (first | refine blk_drewN ?_ _ | refine blk_drew ?_ | refine blk_alloc ?_ _)); exact BK502.out) hb); have n1_ := Aside0.mk (below_step (by repeat (first | (with_reducible first | exact HB.out | apply below_alloc | apply pw_below_drewN | apply below_drew1 | refine below_set ?_ GE502.out) | exact HB.out)) hb); clear BK502; clear HB; have BK502 := n0_; have HB := n1_; clear n0_ n1_; (try clear hb); (try clear hb2); (try clear hk); (try clear hi); have hcz22_0 : w21.cell? ⟨gb502, 0, none⟩ = some (.int .i64 a0_0) := (blk_cell BK502.out 0).trans rfl; have hcz22_1 : w21.cell? ⟨gb502, 1, none⟩ = some (.slice A0_1 l0_1.length c0_1) := (blk_cell BK502.out 1).trans rfl; have hfz22_0 := blk_frozen BK502.out 0; have hfz22_1 := blk_frozen BK502.out 1) | ((with_reducible refine gate_callee (f := 35) rfl ?_); refine goesL_ (some 33) rfl rfl Try.func35 (by kernel_rfl) rfl #[.agg #[.int .i64 a0_0, .slice A0_1 l0_1.length c0_1], .int .i64 a1] rfl (by (try simp only [List.map_toArray, List.map_cons, List.map_nil]); first | done | rfl | (simp only [List.length_drop, List.length_take]; rfl)) ?_; (with_reducible refine (cal_Holiday.calls a0_0 _ _ l0_1 a1 t508 t509 _ ?side1 ?side2 A10.out).mono ?_); (case side1 => repeat (first | exact (Kd.C_below HR0_1.out HB.out) | (with_reducible refine Kd.C_alloc ?_ _) | (with_reducible refine Kd.C_drewN ?_ _) | (with_reducible refine Kd.C_drew ?_))); (case side2 => exact HC0_1.out); rintro e w23 ⟨rfl, hb⟩; refine ⟨_, rfl, ?_⟩; have n0_ := Aside0.mk (blk_below (g := gb502) (o := .cells #[.int .i64 a0_0, .slice A0_1 l0_1.length c0_1] 24 (0, 0)) (by (with_reducible repeat (first | refine blk_drewN ?_ _ | refine blk_drew ?_ | refine blk_alloc ?_ _)); exact BK502.out) hb); have n1_ := Aside0.mk (below_step (by repeat (first | (with_reducible first | exact HB.out | apply below_alloc | apply pw_below_drewN | apply below_drew1 | refine below_set ?_ GE502.out) | exact HB.out)) hb); clear BK502; clear HB; have BK502 := n0_; have HB := n1_; clear n0_ n1_; (try clear hb); (try clear hb2); (try clear hk); (try clear hi); have hcz24_0 : w23.cell? ⟨gb502, 0, none⟩ = some (.int .i64 a0_0) := (blk_cell BK502.out 0).trans rfl; have hcz24_1 : w23.cell? ⟨gb502, 1, none⟩ = some (.slice A0_1 l0_1.length c0_1) := (blk_cell BK502.out 1).trans rfl; have hfz24_0 := blk_frozen BK502.out 0; have hfz24_1 := blk_frozen BK502.out 1) | ((with_reducible refine gate_callee (f := 36) rfl ?_); refine goesL_ (some 39) rfl rfl Try.func36 (by kernel_rfl) rfl #[.agg #[.int .i64 a0_0, .slice A0_1 l0_1.length c0_1], .int .i64 a1] rfl (by (try simp only [List.map_toArray, List.map_cons, List.map_nil]); first | done | rfl | (simp only [List.length_drop, List.length_take]; rfl)) ?_; (with_reducible refine (tenorref6_Holiday.calls k a0_0 _ _ l0_1 a1 t510 t511 _ ?side1 ?side2 A11.out).mono ?_); (case side1 => repeat (first | exact (Kd.C_below HR0_1.out HB.out) | (with_reducible refine Kd.C_alloc ?_ _) | (with_reducible refine Kd.C_drewN ?_ _) | (with_reducible refine Kd.C_drew ?_))); (case side2 => exact HC0_1.out); rintro e w25 ⟨rfl, hb⟩; refine ⟨_, rfl, ?_⟩; have n0_ := Aside0.mk (blk_below (g := gb502) (o := .cells #[.int .i64 a0_0, .slice A0_1 l0_1.length c0_1] 24 (0, 0)) (by (with_reducible repeat (first | refine blk_drewN ?_ _ | refine blk_drew ?_ | refine blk_alloc ?_ _)); exact BK502.out) hb); have n1_ := Aside0.mk (below_step (by repeat (first | (with_reducible first | exact HB.out | apply below_alloc | apply pw_below_drewN | apply below_drew1 | refine below_set ?_ GE502.out) | exact HB.out)) hb); clear BK502; clear HB; have BK502 := n0_; have HB := n1_; clear n0_ n1_; (try clear hb); (try clear hb2); (try clear hk); (try clear hi)) | (go_at_call 32; (with_reducible refine (tenorlaw6_awake.calls  t512 _ A16.out).mono ?_); rintro e w26 ⟨rfl, hb⟩; have n0_ := Aside0.mk (blk_below (g := gb502) (o := .cells #[.int .i64 a0_0, .slice A0_1 l0_1.length c0_1] 24 (0, 0)) (by (with_reducible repeat (first | refine blk_drewN ?_ _ | refine blk_drew ?_ | refine blk_alloc ?_ _)); exact BK502.out) hb); have n1_ := Aside0.mk (below_step (by repeat (first | (with_reducible first | exact HB.out | apply below_alloc | apply pw_below_drewN | apply below_drew1 | refine below_set ?_ GE502.out) | exact HB.out)) hb); clear BK502; clear HB; have BK502 := n0_; have HB := n1_; clear n0_ n1_; (try clear hb); (try clear hb2); (try clear hk); (try clear hi)))
            go_ret
            exact ⟨by first | rfl | (simp [errW_none, errW_some] <;> rfl) | (simp [*, errW_none, errW_some] <;> rfl), by repeat (first | (with_reducible first | exact HB.out | apply below_alloc | apply pw_below_drewN | apply below_drew1 | refine below_set ?_ GE502.out) | exact HB.out)⟩
          · rw [if_neg c15] at H
            have c15b0 : (t509 == t511) = false := beq_eq_false_iff_ne.mpr c15
            have c15b1 : (t509 != t511) = true := bne_iff_ne.mpr c15
            exact absurd (H.trans (congrArg some HT)) (by decide)
        · rw [if_neg c14] at H
          have c14b0 : (t508 == t510) = false := by simpa using c14
          (try (have c14b1 : decide (t508 = t510) = false := by simpa using c14))
          (try (have c14b2 : (t508 == t510) = false := by simpa using c14))
          (try (have c14b3 : ¬ (t508 = t510) := by simpa using c14))
          clear c14
          exact absurd (H.trans (congrArg some HT)) (by decide)
      · rw [if_neg c13] at H
        have c13b0 : (t505 == t507) = false := beq_eq_false_iff_ne.mpr c13
        have c13b1 : (t505 != t507) = true := bne_iff_ne.mpr c13
        exact absurd (H.trans (congrArg some HT)) (by decide)
    · rw [if_neg c12] at H
      have c12b0 : (t504 == t506) = false := by simpa using c12
      (try (have c12b1 : decide (t504 = t506) = false := by simpa using c12))
      (try (have c12b2 : (t504 == t506) = false := by simpa using c12))
      (try (have c12b3 : ¬ (t504 = t506) := by simpa using c12))
      clear c12
      exact absurd (H.trans (congrArg some HT)) (by decide)

/-! ### tenorlaw6_Few: function 37 -/
def tenorlaw6_Few.f (a0_0 : Int) (l0_1 : List (S63)) : Option (Bool) := some (decide ((l0_1.length : Int) ≤ 12))
set_option maxHeartbeats 8000000 in
set_option maxRecDepth 100000 in
theorem tenorlaw6_Few.calls (a0_0 : Int) (A0_1 : Option Addr) (c0_1 : Nat) (l0_1 : List (S63)) (r : Bool) (w : World) (hr0_1 : Kd.C k63 w A0_1 l0_1.length l0_1) (hc0_1 : l0_1.length ≤ c0_1) (h : tenorlaw6_Few.f a0_0 l0_1 = some r) :
    Calls Try.prog 37 #[.agg #[.int .i64 a0_0, .slice A0_1 l0_1.length c0_1]] w fun e w' => e = .returned (.bool r) ∧ Below w.heap.size w w' := by
  have hu24 := Try.underlying24
  have HR0_1 := Aside0.mk hr0_1
  have HC0_1 := Aside0.mk hc0_1
  clear hr0_1 hc0_1
  have HB := Aside0.mk (Below.refl w.heap.size w)
  have H : (some (decide ((l0_1.length : Int) ≤ 12))) = some r := h
  clear h
  obtain rfl := Option.some.inj H
  go_enter Try.func37, Try.ntmps37
  go_wp2_with (first | ((with_reducible refine gate_dst (N := 1) rfl ?_); refine box_event ?hg (N := 1) ?hd (cs := #[.int .i64 a0_0, .slice A0_1 l0_1.length c0_1]) (t := 24) ?hr ?_; (case hd => rfl); (case hg => rfl); (case hr => first | (go_simp; done) | (go_simp; rfl)); intro gb513 hg w2 hbox hb; have n0_ := Aside0.mk (below_step (by repeat (first | (with_reducible first | exact HB.out | apply below_alloc | apply pw_below_drewN | apply below_drew1) | exact HB.out)) hb); have n1_ := Aside0.mk (hbox); have n2_ := Aside0.mk ((by rw [hg]; exact (below_size (by repeat (first | (with_reducible first | exact HB.out | apply below_alloc | apply pw_below_drewN | apply below_drew1) | exact HB.out))) : w.heap.size ≤ gb513)); have n3_ := Aside0.mk ((by rw [hg]; exact (below_size (by repeat (first | (with_reducible first | exact HB.out | apply below_alloc | apply pw_below_drewN | apply below_drew1) | exact HB.out))) : w.heap.size ≤ gb513)); clear HB; have HB := n0_; have BK513 := n1_; have GW513 := n2_; have GE513 := n3_; clear n0_ n1_ n2_ n3_; clear hb hbox hg; have hcz3_0 : w2.cell? ⟨gb513, 0, none⟩ = some (.int .i64 a0_0) := (blk_cell BK513.out 0).trans rfl; have hcz3_1 : w2.cell? ⟨gb513, 1, none⟩ = some (.slice A0_1 l0_1.length c0_1) := (blk_cell BK513.out 1).trans rfl; have hfz3_0 := blk_frozen BK513.out 0; have hfz3_1 := blk_frozen BK513.out 1))
  go_ret
  exact ⟨by first | rfl | (simp [errW_none, errW_some] <;> rfl) | (simp [*, errW_none, errW_some] <;> rfl), by repeat (first | (with_reducible first | exact HB.out | apply below_alloc | apply pw_below_drewN | apply below_drew1 | refine below_set ?_ GE513.out) | exact HB.out)⟩

/-! ### tenorref6_search: function 81 -/
def tenorref6_search.l0 : Nat → Int → Int → Int → List (S63) → Option (Int × Bool)
  | 0, _, _, _, _ => none
  | k + 1, x1, x2, x515000, x515001 => (tenorref6_isDay.f x1).bind fun t515 => (if t515 = true then ((tenorref6_open.f k x515000 x515001 x1).bind fun t516 => (if t516 = true then (some (x1, true)) else (tenorref6_search.l0 k (wrap64 (x1 + x2)) x2 x515000 x515001))) else (some (0, false)))
def tenorref6_search.f (k : Nat) (a0_0 : Int) (l0_1 : List (S63)) (a1 : Int) (a2 : Int) : Option (Int × Bool) := tenorref6_search.l0 k a1 a2 a0_0 l0_1
theorem tenorref6_search.mono_l : ∀ k, (∀ y0 y1 y2 y3, LeO (tenorref6_search.l0 k y0 y1 y2 y3) (tenorref6_search.l0 (k + 1) y0 y1 y2 y3))
  | 0 => fun _ _ _ _ r h => by simp [tenorref6_search.l0] at h
  | k + 1 => by
    have ih0 := tenorref6_search.mono_l k
    · intro y0 y1 y2 y3
      unfold tenorref6_search.l0
      repeat' first
      | (with_reducible exact ih0 _ _ _ _)
      | (with_reducible exact tenorref6_open.mono _ _ _ _)
      | (with_reducible exact LeO.refl _)
      | (with_reducible exact LeO.none _)
      | (with_reducible refine LeO.ite ?_ ?_)
      | (with_reducible refine LeO.bind ?_ (fun _ => ?_))
      | exact ih0 _ _ _ _
      | exact tenorref6_open.mono _ _ _ _
      | exact LeO.none _
      | refine LeO.ite ?_ ?_
      | refine LeO.bind ?_ (fun _ => ?_)
theorem tenorref6_search.mono : ∀ a0 a1 a2 a3 k, LeO (tenorref6_search.f k a0 a1 a2 a3) (tenorref6_search.f (k + 1) a0 a1 a2 a3) := by
  intro a0 a1 a2 a3 k
  have ih0 := tenorref6_search.mono_l k
  unfold tenorref6_search.f
  repeat' first
      | (with_reducible exact ih0 _ _ _ _)
      | (with_reducible exact tenorref6_open.mono _ _ _ _)
      | (with_reducible exact LeO.refl _)
      | (with_reducible exact LeO.none _)
      | (with_reducible refine LeO.ite ?_ ?_)
      | (with_reducible refine LeO.bind ?_ (fun _ => ?_))
      | exact ih0 _ _ _ _
      | exact tenorref6_open.mono _ _ _ _
      | exact LeO.none _
      | refine LeO.ite ?_ ?_
      | refine LeO.bind ?_ (fun _ => ?_)
set_option maxHeartbeats 8000000 in
set_option maxRecDepth 100000 in
theorem tenorref6_search.calls (k : Nat) (a0_0 : Int) (A0_1 : Option Addr) (c0_1 : Nat) (l0_1 : List (S63)) (a1 : Int) (a2 : Int) (r1 : Int) (r2 : Bool) (w : World) (hr0_1 : Kd.C k63 w A0_1 l0_1.length l0_1) (hc0_1 : l0_1.length ≤ c0_1) (h : tenorref6_search.f k a0_0 l0_1 a1 a2 = some (r1, r2)) :
    Calls Try.prog 81 #[.agg #[.int .i64 a0_0, .slice A0_1 l0_1.length c0_1], .int .i64 a1, .int .i64 a2] w fun e w' => e = .returned (.tuple #[.int .i64 r1, .bool r2]) ∧ Below w.heap.size w w' := by
  have hu24 := Try.underlying24
  have HR0_1 := Aside0.mk hr0_1
  have HC0_1 := Aside0.mk hc0_1
  clear hr0_1 hc0_1
  have HB := Aside0.mk (Below.refl w.heap.size w)
  have H : (tenorref6_search.l0 k a1 a2 a0_0 l0_1) = some (r1, r2) := h
  clear h
  have H' := Aside0.mk H
  clear H
  go_enter Try.func81, Try.ntmps81
  go_wp2_with (first | ((with_reducible refine gate_dst (N := 3) rfl ?_); refine box_event ?hg (N := 3) ?hd (cs := #[.int .i64 a0_0, .slice A0_1 l0_1.length c0_1]) (t := 24) ?hr ?_; (case hd => rfl); (case hg => rfl); (case hr => first | (go_simp; done) | (go_simp; rfl)); intro gb514 hg w4 hbox hb; have n0_ := Aside0.mk (below_step (by repeat (first | (with_reducible first | exact HB.out | apply below_alloc | apply pw_below_drewN | apply below_drew1) | exact HB.out)) hb); have n1_ := Aside0.mk (hbox); have n2_ := Aside0.mk ((by rw [hg]; exact (below_size (by repeat (first | (with_reducible first | exact HB.out | apply below_alloc | apply pw_below_drewN | apply below_drew1) | exact HB.out))) : w.heap.size ≤ gb514)); have n3_ := Aside0.mk ((by rw [hg]; exact (below_size (by repeat (first | (with_reducible first | exact HB.out | apply below_alloc | apply pw_below_drewN | apply below_drew1) | exact HB.out))) : w.heap.size ≤ gb514)); clear HB; have HB := n0_; have BK514 := n1_; have GW514 := n2_; have GE514 := n3_; clear n0_ n1_ n2_ n3_; clear hb hbox hg))
  go_loopg [1] k (fun kq v1 w' => ∃ (x1_1 : Int), v1 = .int .i64 x1_1 ∧ Aside0 (tenorref6_search.l0 kq x1_1 a2 a0_0 l0_1 = some (r1, r2)) ∧ Aside0 (kq ≤ k) ∧ Aside0 (w'.heap[gb514]? = some (.cells #[.int .i64 a0_0, (.slice A0_1 l0_1.length c0_1)] 24 (0, 0))) ∧ Aside0 (Below w.heap.size w w'))
  case atStart => exact ⟨(a1), (by first | rfl | (simp; done) | (simp [*]; done)), H', ⟨Nat.le_refl _⟩, ⟨by (with_reducible repeat (first | refine blk_drewN ?_ _ | refine blk_drew ?_ | refine blk_alloc ?_ _)); exact BK514.out⟩, ⟨by repeat (first | (with_reducible first | exact HB.out | apply below_alloc | apply pw_below_drewN | apply below_drew1 | refine below_set ?_ GE514.out) | exact HB.out)⟩⟩
  case round =>
    clear H'
    try clear p2
    obtain ⟨x1_1, rfl, HA, HK1, BK514, HB⟩ := hrel
    cases gk with
    | zero => exact absurd HA.out (by simp [tenorref6_search.l0])
    | succ k1 =>
      have H := HA.out
      clear HA
      simp only [tenorref6_search.l0] at H
      replace H := Option.bind_eq_some_iff.mp H
      obtain ⟨t515, A50, H⟩ := H
      replace H : (if t515 = true then ((tenorref6_open.f k1 a0_0 l0_1 x1_1).bind fun t516 => (if t516 = true then (some (x1_1, true)) else (tenorref6_search.l0 k1 (wrap64 (x1_1 + a2)) a2 a0_0 l0_1))) else (some (0, false))) = some (r1, r2) := H
      have A5 := Aside0.mk A50
      clear A50
      by_cases c6 : t515 = true
      · subst c6
        have H1 : ((tenorref6_open.f k1 a0_0 l0_1 x1_1).bind fun t516 => (if t516 = true then (some (x1_1, true)) else (tenorref6_search.l0 k1 (wrap64 (x1_1 + a2)) a2 a0_0 l0_1))) = some (r1, r2) := by rw [if_pos rfl] at H; exact H
        clear H
        have H := H1
        clear H1
        replace H := Option.bind_eq_some_iff.mp H
        obtain ⟨t516, A70, H⟩ := H
        replace H : (if t516 = true then (some (x1_1, true)) else (tenorref6_search.l0 k1 (wrap64 (x1_1 + a2)) a2 a0_0 l0_1)) = some (r1, r2) := H
        have A7 := Aside0.mk A70
        clear A70
        by_cases c8 : t516 = true
        · subst c8
          have H1 : (some (x1_1, true)) = some (r1, r2) := by rw [if_pos rfl] at H; exact H
          clear H
          have H := H1
          clear H1
          simp only [Option.some.injEq, Prod.mk.injEq] at H
          obtain ⟨rfl, rfl⟩ := H
          go_wp2_with (first | ((with_reducible refine gate_callee (f := 80) rfl ?_); refine goesL_ (some 9) rfl rfl Try.func80 (by kernel_rfl) rfl #[.int .i64 x1_1] rfl (by (try simp only [List.map_toArray, List.map_cons, List.map_nil]); first | done | rfl | (simp only [List.length_drop, List.length_take]; rfl)) ?_; (with_reducible refine (tenorref6_isDay.calls x1_1 true _ A5.out).mono ?_); rintro e w' ⟨rfl, ⟨nd, rfl⟩⟩; refine ⟨_, rfl, ?_⟩; have hcz9_0 : wr.cell? ⟨gb514, 0, none⟩ = some (.int .i64 a0_0) := (blk_cell BK514.out 0).trans rfl; have hcz9_1 : wr.cell? ⟨gb514, 1, none⟩ = some (.slice A0_1 l0_1.length c0_1) := (blk_cell BK514.out 1).trans rfl; have hfz9_0 := blk_frozen BK514.out 0; have hfz9_1 := blk_frozen BK514.out 1) | ((with_reducible refine gate_callee (f := 74) rfl ?_); refine goesL_ (some 12) rfl rfl Try.func74 (by kernel_rfl) rfl #[.agg #[.int .i64 a0_0, .slice A0_1 l0_1.length c0_1], .int .i64 x1_1] rfl (by (try simp only [List.map_toArray, List.map_cons, List.map_nil]); first | done | rfl | (simp only [List.length_drop, List.length_take]; rfl)) ?_; (with_reducible refine (tenorref6_open.calls k1 a0_0 _ _ l0_1 x1_1 true _ ?side1 ?side2 A7.out).mono ?_); (case side1 => repeat (first | exact (Kd.C_below HR0_1.out (by repeat (first | (with_reducible first | exact HB.out | apply below_alloc | apply pw_below_drewN | apply below_drew1 | refine below_set ?_ GE514.out) | exact HB.out))) | (with_reducible refine Kd.C_alloc ?_ _) | (with_reducible refine Kd.C_drewN ?_ _) | (with_reducible refine Kd.C_drew ?_))); (case side2 => exact HC0_1.out); rintro e w10 ⟨rfl, hb⟩; refine ⟨_, rfl, ?_⟩; have n0_ := Aside0.mk (blk_below (g := gb514) (o := .cells #[.int .i64 a0_0, .slice A0_1 l0_1.length c0_1] 24 (0, 0)) (by (with_reducible repeat (first | refine blk_drewN ?_ _ | refine blk_drew ?_ | refine blk_alloc ?_ _)); exact BK514.out) hb); have n1_ := Aside0.mk (below_step (by repeat (first | (with_reducible first | exact HB.out | apply below_alloc | apply pw_below_drewN | apply below_drew1 | refine below_set ?_ GE514.out) | exact HB.out)) hb); clear BK514; clear HB; have BK514 := n0_; have HB := n1_; clear n0_ n1_; (try clear hb); (try clear hb2); (try clear hk); (try clear hi)))
          go_ret2
          exact ⟨by first | rfl | (simp [errW_none, errW_some] <;> rfl) | (simp [*, errW_none, errW_some] <;> rfl), by repeat (first | (with_reducible first | exact HB.out | apply below_alloc | apply pw_below_drewN | apply below_drew1 | refine below_set ?_ GE514.out) | exact HB.out)⟩
        · replace c8 := Bool.eq_false_iff.mpr c8
          subst c8
          have H1 : (tenorref6_search.l0 k1 (wrap64 (x1_1 + a2)) a2 a0_0 l0_1) = some (r1, r2) := by rw [if_neg (show ¬ (false = true) by decide)] at H; exact H
          clear H
          have H := H1
          clear H1
          have H' := Aside0.mk H
          clear H
          go_wp2_with (first | ((with_reducible refine gate_callee (f := 80) rfl ?_); refine goesL_ (some 9) rfl rfl Try.func80 (by kernel_rfl) rfl #[.int .i64 x1_1] rfl (by (try simp only [List.map_toArray, List.map_cons, List.map_nil]); first | done | rfl | (simp only [List.length_drop, List.length_take]; rfl)) ?_; (with_reducible refine (tenorref6_isDay.calls x1_1 true _ A5.out).mono ?_); rintro e w' ⟨rfl, ⟨nd, rfl⟩⟩; refine ⟨_, rfl, ?_⟩; have hcz11_0 : wr.cell? ⟨gb514, 0, none⟩ = some (.int .i64 a0_0) := (blk_cell BK514.out 0).trans rfl; have hcz11_1 : wr.cell? ⟨gb514, 1, none⟩ = some (.slice A0_1 l0_1.length c0_1) := (blk_cell BK514.out 1).trans rfl; have hfz11_0 := blk_frozen BK514.out 0; have hfz11_1 := blk_frozen BK514.out 1) | ((with_reducible refine gate_callee (f := 74) rfl ?_); refine goesL_ (some 12) rfl rfl Try.func74 (by kernel_rfl) rfl #[.agg #[.int .i64 a0_0, .slice A0_1 l0_1.length c0_1], .int .i64 x1_1] rfl (by (try simp only [List.map_toArray, List.map_cons, List.map_nil]); first | done | rfl | (simp only [List.length_drop, List.length_take]; rfl)) ?_; (with_reducible refine (tenorref6_open.calls k1 a0_0 _ _ l0_1 x1_1 false _ ?side1 ?side2 A7.out).mono ?_); (case side1 => repeat (first | exact (Kd.C_below HR0_1.out (by repeat (first | (with_reducible first | exact HB.out | apply below_alloc | apply pw_below_drewN | apply below_drew1 | refine below_set ?_ GE514.out) | exact HB.out))) | (with_reducible refine Kd.C_alloc ?_ _) | (with_reducible refine Kd.C_drewN ?_ _) | (with_reducible refine Kd.C_drew ?_))); (case side2 => exact HC0_1.out); rintro e w12 ⟨rfl, hb⟩; refine ⟨_, rfl, ?_⟩; have n0_ := Aside0.mk (blk_below (g := gb514) (o := .cells #[.int .i64 a0_0, .slice A0_1 l0_1.length c0_1] 24 (0, 0)) (by (with_reducible repeat (first | refine blk_drewN ?_ _ | refine blk_drew ?_ | refine blk_alloc ?_ _)); exact BK514.out) hb); have n1_ := Aside0.mk (below_step (by repeat (first | (with_reducible first | exact HB.out | apply below_alloc | apply pw_below_drewN | apply below_drew1 | refine below_set ?_ GE514.out) | exact HB.out)) hb); clear BK514; clear HB; have BK514 := n0_; have HB := n1_; clear n0_ n1_; (try clear hb); (try clear hb2); (try clear hk); (try clear hi)))
          go_roundg k1
          case measure => have := HK1.out; omega
          case rel => exact ⟨(wrap64 (x1_1 + a2)), (by first | rfl | (simp; done) | (simp [*]; done)), H', ⟨by have := HK1.out; omega⟩, ⟨by (with_reducible repeat (first | refine blk_drewN ?_ _ | refine blk_drew ?_ | refine blk_alloc ?_ _)); exact BK514.out⟩, ⟨by repeat (first | (with_reducible first | exact HB.out | apply below_alloc | apply pw_below_drewN | apply below_drew1 | refine below_set ?_ GE514.out) | exact HB.out)⟩⟩
      · replace c6 := Bool.eq_false_iff.mpr c6
        subst c6
        have H1 : (some (0, false)) = some (r1, r2) := by rw [if_neg (show ¬ (false = true) by decide)] at H; exact H
        clear H
        have H := H1
        clear H1
        simp only [Option.some.injEq, Prod.mk.injEq] at H
        obtain ⟨rfl, rfl⟩ := H
        go_wp2_with (first | ((with_reducible refine gate_callee (f := 80) rfl ?_); refine goesL_ (some 9) rfl rfl Try.func80 (by kernel_rfl) rfl #[.int .i64 x1_1] rfl (by (try simp only [List.map_toArray, List.map_cons, List.map_nil]); first | done | rfl | (simp only [List.length_drop, List.length_take]; rfl)) ?_; (with_reducible refine (tenorref6_isDay.calls x1_1 false _ A5.out).mono ?_); rintro e w' ⟨rfl, ⟨nd, rfl⟩⟩; refine ⟨_, rfl, ?_⟩))
        go_ret2
        exact ⟨by first | rfl | (simp [errW_none, errW_some] <;> rfl) | (simp [*, errW_none, errW_some] <;> rfl), by repeat (first | (with_reducible first | exact HB.out | apply below_alloc | apply pw_below_drewN | apply below_drew1 | refine below_set ?_ GE514.out) | exact HB.out)⟩

/-! ### tenorref6_month: function 82 -/
def tenorref6_month.f (k : Nat) (a0 : Int) : Option (Int) := (tenorref5_Civil.f k a0).bind fun bt517 => (some (wrap64 ((wrap64 (12 * bt517.1)) + bt517.2.1)))
theorem tenorref6_month.mono : ∀ a0 k, LeO (tenorref6_month.f k a0) (tenorref6_month.f (k + 1) a0) := by
  intro a0 k
  unfold tenorref6_month.f
  repeat' first
      | (with_reducible exact tenorref5_Civil.mono _ _)
      | (with_reducible exact LeO.refl _)
      | (with_reducible exact LeO.none _)
      | (with_reducible refine LeO.ite ?_ ?_)
      | (with_reducible refine LeO.bind ?_ (fun _ => ?_))
      | exact tenorref5_Civil.mono _ _
      | exact LeO.none _
      | refine LeO.ite ?_ ?_
      | refine LeO.bind ?_ (fun _ => ?_)
set_option maxHeartbeats 8000000 in
set_option maxRecDepth 100000 in
theorem tenorref6_month.calls (k : Nat) (a0 : Int) (r : Int) (w : World) (h : tenorref6_month.f k a0 = some r) :
    Calls Try.prog 82 #[.int .i64 a0] w fun e w' => e = .returned (.int .i64 r) ∧ Below w.heap.size w w' := by
  have hu115 := Try.underlying115
  have HB := Aside0.mk (Below.refl w.heap.size w)
  have H : ((tenorref5_Civil.f k a0).bind fun bt517 => (some (wrap64 ((wrap64 (12 * bt517.1)) + bt517.2.1)))) = some r := h
  clear h
  replace H := Option.bind_eq_some_iff.mp H
  obtain ⟨⟨t517, t518, t519, t520⟩, A20, H⟩ := H
  replace H : (some (wrap64 ((wrap64 (12 * t517)) + t518))) = some r := H
  have A2 := Aside0.mk A20
  clear A20
  obtain rfl := Option.some.inj H
  go_enter Try.func82, Try.ntmps82
  go_wp2_with (first | ((with_reducible refine gate_callee (f := 96) rfl ?_); refine goesL_ (some 7) rfl rfl Try.func96 (by kernel_rfl) rfl #[.int .i64 a0] rfl (by (try simp only [List.map_toArray, List.map_cons, List.map_nil]); first | done | rfl | (simp only [List.length_drop, List.length_take]; rfl)) ?_; (with_reducible refine (tenorref5_Civil.calls k a0 t517 t518 t519 t520 _ A2.out).mono ?_); rintro e w3 ⟨rfl, hb⟩; refine ⟨_, rfl, ?_⟩; have n0_ := Aside0.mk (below_step (by repeat (first | (with_reducible first | exact HB.out | apply below_alloc | apply pw_below_drewN | apply below_drew1) | exact HB.out)) hb); clear HB; have HB := n0_; clear n0_; (try clear hb); (try clear hb2); (try clear hk); (try clear hi)) | ((with_reducible refine gate_dst (N := 3) rfl ?_); refine box_event ?hg (N := 3) ?hd (cs := #[.int .i64 0, .int .i64 0, .int .i64 0]) (t := 115) ?hr ?_; (case hd => rfl); (case hg => rfl); (case hr => first | (go_simp; done) | (go_simp; rfl)); intro gb521 hg w4 hbox hb; have n0_ := Aside0.mk (below_step (by repeat (first | (with_reducible first | exact HB.out | apply below_alloc | apply pw_below_drewN | apply below_drew1) | exact HB.out)) hb); have n1_ := Aside0.mk (hbox); have n2_ := Aside0.mk ((by rw [hg]; exact (below_size (by repeat (first | (with_reducible first | exact HB.out | apply below_alloc | apply pw_below_drewN | apply below_drew1) | exact HB.out))) : w.heap.size ≤ gb521)); have n3_ := Aside0.mk ((by rw [hg]; exact (below_size (by repeat (first | (with_reducible first | exact HB.out | apply below_alloc | apply pw_below_drewN | apply below_drew1) | exact HB.out))) : w.heap.size ≤ gb521)); clear HB; have HB := n0_; have BK521 := n1_; have GW521 := n2_; have GE521 := n3_; clear n0_ n1_ n2_ n3_; clear hb hbox hg; have hcz5_0 : w4.cell? ⟨gb521, 0, none⟩ = some (.int .i64 0) := (blk_cell BK521.out 0).trans rfl; have hcz5_1 : w4.cell? ⟨gb521, 1, none⟩ = some (.int .i64 0) := (blk_cell BK521.out 1).trans rfl; have hcz5_2 : w4.cell? ⟨gb521, 2, none⟩ = some (.int .i64 0) := (blk_cell BK521.out 2).trans rfl; have hfz5_0 := blk_frozen BK521.out 0; have hfz5_1 := blk_frozen BK521.out 1; have hfz5_2 := blk_frozen BK521.out 2))
  go_ret
  exact ⟨by first | rfl | (simp [errW_none, errW_some] <;> rfl) | (simp [*, errW_none, errW_some] <;> rfl), by repeat (first | (with_reducible first | exact HB.out | apply below_alloc | apply pw_below_drewN | apply below_drew1 | refine below_set ?_ GE521.out) | exact HB.out)⟩

end Go.Proofs.Ytoncignjcgjhhaa.Q

namespace Go.Proofs.Ytoncignjcgjhhaa.R
open Go.RowKit Go.Proofs.YtoncignjcgjhhaaW.PrintWords Go.Proofs.YtoncignjcgjhhaaW.PrintLast Go.Proofs.YtoncignjcgjhhaaW.PrintMore
open Go.Proofs.Ytoncignjcgjhhaa.Q
open Go.Proofs.Ytoncignjcgjhhaa.L (w64 td tm tm0)

theorem mod7 (n : Int) : Int.tmod (Int.tmod n 7 + 7) 7 = n % 7 := by
  have h : -7 < Int.tmod n 7 ∧ Int.tmod n 7 < 7 ∧ (Int.tmod n 7) % 7 = n % 7 := by
    by_cases h0 : 0 ≤ n
    · rw [tm h0]; omega
    · obtain ⟨m, rfl⟩ : ∃ m, n = -m := ⟨-n, by omega⟩
      rw [Int.neg_tmod, tm (by omega)]; omega
  rw [tm (by omega)]; omega

theorem shr_tab : ∀ we : Fin 127, ∀ s : Fin 7, (Go.bits .and .i64 (shr .i64 (we.val : Int) (s.val : Int)) 1 == 1) = decide ((we.val : Int) / 2 ^ (s.val : Int).toNat % 2 = 1) := by decide +kernel

theorem off (we n : Int) (l : List S63) (h0 : 0 ≤ we) (h1 : we ≤ 126) : tenorref6_off.f we l n = some (M.off we n) := by
  unfold tenorref6_off.f
  have ht : -7 < Int.tmod n 7 ∧ Int.tmod n 7 < 7 := by
    by_cases h0 : 0 ≤ n
    · rw [tm h0]; omega
    · obtain ⟨m, rfl⟩ : ∃ m, n = -m := ⟨-n, by omega⟩
      rw [Int.neg_tmod, tm (by omega)]; omega
  rw [w64 (x := Int.tmod n 7 + 7) (by omega) (by omega), mod7, if_pos (by omega)]
  have h := shr_tab ⟨we.toNat, by omega⟩ ⟨(n % 7).toNat, by omega⟩
  rw [show (((⟨we.toNat, by omega⟩ : Fin 127).val : Nat) : Int) = we from by simp; omega, show (((⟨(n % 7).toNat, by omega⟩ : Fin 7).val : Nat) : Int) = n % 7 from by simp; omega] at h
  rw [h]
  unfold M.off
  rw [show (n + 7) % 7 = n % 7 from by omega]

theorem least (p : Int → Bool) : ∀ (N : Nat), p N = false → ∃ k : Int, 0 ≤ k ∧ k ≤ N ∧ p k = false ∧ ∀ j, 0 ≤ j → j < k → p j = true
  | 0, h => ⟨0, by omega, by omega, h, fun j a b => by omega⟩
  | N + 1, h => by
    by_cases hN : ∃ k : Nat, k ≤ N ∧ p k = false
    · obtain ⟨k, hk, hp⟩ := hN
      obtain ⟨q, a, b, c, d⟩ := least p k hp
      exact ⟨q, a, by omega, c, d⟩
    · refine ⟨(N + 1 : Nat), by omega, by omega, h, fun j a b => ?_⟩
      cases hj : p j with
      | true => rfl
      | false => exact absurd ⟨j.toNat, by omega, by rw [show ((j.toNat : Nat) : Int) = j from by omega]; exact hj⟩ hN
  termination_by N => N
  decreasing_by omega

theorem movedF_val (we n mv ku kd : Int) (hu : M.off we (n + ku) = false) (hu' : ∀ j, 0 ≤ j → j < ku → M.off we (n + j) = true) (hd : M.off we (n - kd) = false) (hd' : ∀ j, 0 ≤ j → j < kd → M.off we (n - j) = true) (hku : ku ≤ 6) :
    ∀ (f : Nat) (k : Int), 1 ≤ k → k ≤ ku → (mv = 2 → k ≤ kd) → k + f = 7 → M.movedF we n mv f k = if mv = 2 ∧ kd < ku then n - kd else n + ku
  | 0, k, a, b, c, d => by omega
  | f + 1, k, a, b, c, d => by
    unfold M.movedF
    by_cases e : k = ku
    · subst e; rw [if_pos hu]
      rw [if_neg (by rintro ⟨x, y⟩; have := c x; omega)]
    · rw [if_neg (by rw [hu' k (by omega) (by omega)]; simp)]
      by_cases h2 : mv = 2
      · by_cases e2 : k = kd
        · subst e2; rw [if_pos ⟨h2, hd⟩, if_pos ⟨h2, by omega⟩]
        · have := c h2
          rw [if_neg (by rw [hd' k (by omega) (by omega)]; simp)]
          exact movedF_val we n mv ku kd hu hu' hd hd' hku f (k + 1) (by omega) (by omega) (by omega) (by omega)
      · rw [if_neg (by simp [h2])]
        exact movedF_val we n mv ku kd hu hu' hd hd' hku f (k + 1) (by omega) (by omega) (by omega) (by omega)

theorem moved_l1 (we n mv up kd : Int) (l : List S63) (h0 : 0 ≤ we) (h1 : we ≤ 126) (hn : -1000000 ≤ n) (hn1 : n ≤ 1000000) (hup : -1000000 ≤ up) (hup1 : up ≤ 2000000) (hkd : kd ≤ 6) (hd : M.off we (n - kd) = false) (hd' : ∀ j, 0 ≤ j → j < kd → M.off we (n - j) = true) :
    ∀ (f : Nat) (j : Int), 0 ≤ j → j ≤ kd → kd - j = f → Ev (fun k => tenorref6_moved.l1 k n mv up (n - j) we l) (if mv = 2 ∧ kd < up - n then n - kd else up)
  | 0, j, a, b, c => by
    have e : j = kd := by omega
    refine Ev.step (f := fun _ => some (if mv = 2 ∧ kd < up - n then n - kd else up)) (fun k => ?_) (Ev.now _)
    simp only [tenorref6_moved.l1]
    rw [off we _ l h0 h1, e, hd]
    simp only [Option.bind_some, Bool.false_eq_true, if_false]
    rw [w64 (by omega) (by omega), w64 (by omega) (by omega)]
    by_cases h2 : mv = 2
    · rw [if_pos h2]
      by_cases h3 : kd < up - n
      · rw [if_pos (by omega), if_pos ⟨h2, h3⟩]
      · rw [if_neg (by omega), if_neg (by simp [h3])]
    · rw [if_neg h2, if_neg (by simp [h2])]
  | f + 1, j, a, b, c => by
    have ih := moved_l1 we n mv up kd l h0 h1 hn hn1 hup hup1 hkd hd hd' f (j + 1) (by omega) (by omega) (by omega)
    refine Ev.step (fun k => ?_) ih
    simp only [tenorref6_moved.l1]
    rw [off we _ l h0 h1, hd' j a (by omega)]
    simp only [Option.bind_some, if_true]
    rw [w64 (by omega) (by omega), show n - j - 1 = n - (j + 1) from by omega]

theorem moved_l0 (we n mv ku kd : Int) (l : List S63) (h0 : 0 ≤ we) (h1 : we ≤ 126) (hn : -1000000 ≤ n) (hn1 : n ≤ 1000000) (hku : ku ≤ 6) (hkd : kd ≤ 6) (hkd0 : 0 ≤ kd) (hu : M.off we (n + ku) = false) (hu' : ∀ j, 0 ≤ j → j < ku → M.off we (n + j) = true)
    (hd : M.off we (n - kd) = false) (hd' : ∀ j, 0 ≤ j → j < kd → M.off we (n - j) = true) :
    ∀ (f : Nat) (j : Int), 0 ≤ j → j ≤ ku → ku - j = f → Ev (fun k => tenorref6_moved.l0 k n mv (n + j) we l) (if mv = 2 ∧ kd < ku then n - kd else n + ku)
  | 0, j, a, b, c => by
    have e : j = ku := by omega
    have h := moved_l1 we n mv (n + ku) kd l h0 h1 hn hn1 (by omega) (by omega) hkd hd hd' kd.toNat 0 (by omega) (by omega) (by omega)
    rw [Int.sub_zero, show n + ku - n = ku from by omega] at h
    refine Ev.step (fun k => ?_) h
    simp only [tenorref6_moved.l0]
    rw [off we _ l h0 h1, e, hu]
    simp only [Option.bind_some, Bool.false_eq_true, if_false]
  | f + 1, j, a, b, c => by
    have ih := moved_l0 we n mv ku kd l h0 h1 hn hn1 hku hkd hkd0 hu hu' hd hd' f (j + 1) (by omega) (by omega) (by omega)
    refine Ev.step (fun k => ?_) ih
    simp only [tenorref6_moved.l0]
    rw [off we _ l h0 h1, hu' j a (by omega)]
    simp only [Option.bind_some, if_true]
    rw [w64 (by omega) (by omega), show n + j + 1 = n + (j + 1) from by omega]

theorem moved (we n mv : Int) (l : List S63) (h0 : 0 ≤ we) (h1 : we ≤ 126) (hn : -1000000 ≤ n) (hn1 : n ≤ 1000000) : Ev (fun k => tenorref6_moved.f k we l n mv) (M.moved we n mv) := by
  have no : ∀ b, b = true → Ev (fun k => tenorref6_moved.j0 k n mv b we l) n := fun b hb => Ev.step (f := fun _ => some n) (fun k => by simp only [tenorref6_moved.j0, hb, if_true]) (Ev.now _)
  by_cases hm : mv = 0
  · subst hm
    rw [H.moved_0]
    exact Ev.congr (fun k => by unfold tenorref6_moved.f; rw [if_pos rfl]) (no true rfl)
  · cases ho : M.off we n with
    | false =>
      rw [H.moved_open ho]
      refine Ev.congr (fun k => ?_) (no true rfl)
      unfold tenorref6_moved.f
      rw [if_neg hm, off we n l h0 h1, ho]; rfl
    | true =>
      rw [H.moved_off hm ho]
      obtain ⟨ku0, a, b, c⟩ := M.off_near we n h0 h1
      obtain ⟨ku, u0, u1, u2, u3⟩ := least (fun j => M.off we (n + j)) ku0.toNat (by show M.off we (n + _) = false; rw [show ((ku0.toNat : Nat) : Int) = ku0 from by omega]; exact c)
      obtain ⟨kd0, a', b', c'⟩ := M.off_near we (n - 6) h0 h1
      obtain ⟨kd, d0, d1, d2, d3⟩ := least (fun j => M.off we (n - j)) (6 - kd0).toNat (by show M.off we (n - _) = false; rw [show n - (((6 - kd0).toNat : Nat) : Int) = n - 6 + kd0 from by omega]; exact c')
      replace u2 : M.off we (n + ku) = false := u2
      replace d2 : M.off we (n - kd) = false := d2
      replace u3 : ∀ j, 0 ≤ j → j < ku → M.off we (n + j) = true := u3
      replace d3 : ∀ j, 0 ≤ j → j < kd → M.off we (n - j) = true := d3
      have hku1 : 1 ≤ ku := by
        by_cases e : ku = 0
        · subst e; rw [Int.add_zero, ho] at u2; cases u2
        · omega
      have hkd1 : 1 ≤ kd := by
        by_cases e : kd = 0
        · subst e; rw [Int.sub_zero, ho] at d2; cases d2
        · omega
      rw [movedF_val we n mv ku kd u2 u3 d2 d3 (by omega) 6 1 (by omega) hku1 (fun _ => hkd1) (by omega)]
      have h := moved_l0 we n mv ku kd l h0 h1 hn hn1 (by omega) (by omega) (by omega) u2 u3 d2 d3 ku.toNat 0 (by omega) (by omega) (by omega)
      rw [Int.add_zero] at h
      refine Ev.congr (fun k => ?_) (Ev.step (g := fun k => tenorref6_moved.j0 k n mv false we l) (fun k => by simp only [tenorref6_moved.j0, Bool.false_eq_true, if_false]) h)
      unfold tenorref6_moved.f
      rw [if_neg hm, off we n l h0 h1, ho]; rfl

theorem nth_l0 (wd k first size : Int) (hk0 : 1 ≤ k) (hk1 : k ≤ 5) (hs0 : 28 ≤ size) (hs1 : size ≤ 31) (hf0 : 0 ≤ first) (hf1 : first ≤ 200000) (hw0 : 0 ≤ wd) (hw1 : wd ≤ 6) :
    ∀ (f : Nat) (j : Int), 0 ≤ j → j ≤ (wd - first % 7 + 7) % 7 → (wd - first % 7 + 7) % 7 - j = f →
    Ev (fun q => tenorref6_nth.l0 q wd k first size (first + j)) (if (wd - first % 7 + 7) % 7 + 7 * (k - 1) ≥ size then first + ((wd - first % 7 + 7) % 7 + 7 * (k - 1) - 7) else first + ((wd - first % 7 + 7) % 7 + 7 * (k - 1)))
  | 0, j, a, b, c => by
    have e : j = (wd - first % 7 + 7) % 7 := by omega
    refine Ev.step (f := fun _ => some _) (fun q => ?_) (Ev.now _)
    simp only [tenorref6_nth.l0]
    rw [← e, tm (by omega), if_pos (by omega)]
    rw [w64 (x := k - 1) (by omega) (by omega), w64 (x := 7 * (k - 1)) (by omega) (by omega), w64 (x := first + j + 7 * (k - 1)) (by omega) (by omega), w64 (x := first + size) (by omega) (by omega), w64 (x := first + j + 7 * (k - 1) - 7) (by omega) (by omega)]
    by_cases h5 : k = 5
    · rw [if_pos h5]
      by_cases hg : first + j + 7 * (k - 1) ≥ first + size
      · rw [if_pos hg, if_pos (by omega)]; congr 1; omega
      · rw [if_neg hg, if_neg (by omega)]; congr 1; omega
    · rw [if_neg h5, if_neg (by omega)]; congr 1; omega
  | f + 1, j, a, b, c => by
    have ih := nth_l0 wd k first size hk0 hk1 hs0 hs1 hf0 hf1 hw0 hw1 f (j + 1) (by omega) (by omega) (by omega)
    refine Ev.step (fun q => ?_) ih
    simp only [tenorref6_nth.l0]
    rw [tm (by omega), if_neg (by omega), w64 (by omega) (by omega), show first + j + 1 = first + (j + 1) from by omega]

theorem nth (y m wd k : Int) (h0 : 1900 ≤ y) (h1 : y ≤ 2199) (hm0 : 1 ≤ m) (hm1 : m ≤ 12) (hk0 : 1 ≤ k) (hk1 : k ≤ 5) (hw0 : 0 ≤ wd) (hw1 : wd ≤ 6) : Ev (fun q => tenorref6_nth.f q y m wd k) (M.nthDay y m wd k) := by
  have hl := M.mlen_rng y m
  have hd : M.isDate y m 1 := ⟨h0, h1, hm0, hm1, by omega, by omega⟩
  have hr := M.day_rng hd
  have ho := Of y m 1
  rw [if_pos hd] at ho
  have hL := Length y m
  rw [if_pos ⟨h0, h1, hm0, hm1⟩] at hL
  have h := nth_l0 wd k (M.dayOf y m 1) (M.mlen y m) hk0 hk1 hl.1 hl.2 hr.1 (by omega) hw0 hw1 ((wd - M.dayOf y m 1 % 7 + 7) % 7).toNat 0 (by omega) (by omega) (by omega)
  rw [Int.add_zero] at h
  exact Ev.congr (fun q => rfl) (Ev.bind (f := fun q (t : Int × Int) => (tenorref5_Length.f q y m).bind fun (s : Int × Int) => tenorref6_nth.l0 q wd k t.1 s.1 t.1) ho (Ev.bind (f := fun q (s : Int × Int) => tenorref6_nth.l0 q wd k (M.dayOf y m 1) s.1 (M.dayOf y m 1)) hL h))

/-- What the document's day of a rule tells: ahead of the moving, none of a rule without such a date. -/
theorem day (we : Int) (l : List S63) (a0 a1 a2 a3 a4 a5 a6 a7 a8 y : Int) (h0 : 0 ≤ we) (h1 : we ≤ 126) (hm : M.may ⟨a0, a1, a2, a3, a4, a5, a6, a7, a8⟩ = true) (h4 : ¬ a0 = 4) :
    ∃ p : Int × Bool, Ev (fun k => tenorref6_day.f k we l a0 a1 a2 a3 a4 a5 a6 a7 a8 y) p ∧ ∀ x, M.gives we ⟨a0, a1, a2, a3, a4, a5, a6, a7, a8⟩ y x = (p.2 && decide (p.1 = x)) := by
  have hyr := M.may_years hm h4
  simp only at hyr
  by_cases hi : a6 ≤ y ∧ y ≤ a7
  · have hy0 : 1900 ≤ y := by omega
    have hy1 : y ≤ 2199 := by omega
    have start : ∀ p, Ev (fun k => tenorref6_day.j0 k y false we l a0 a1 a2 a3 a4 a5 a6 a7 a8) p → Ev (fun k => tenorref6_day.f k we l a0 a1 a2 a3 a4 a5 a6 a7 a8 y) p := by
      intro p h
      refine Ev.congr (fun k => ?_) h
      unfold tenorref6_day.f
      rw [if_neg (by omega), show decide (y > a7) = false from decide_eq_false (by omega)]
    have hin : (⟨a0, a1, a2, a3, a4, a5, a6, a7, a8⟩ : M.Rul).kind = 4 ∨ ((⟨a0, a1, a2, a3, a4, a5, a6, a7, a8⟩ : M.Rul).from_ ≤ y ∧ y ≤ (⟨a0, a1, a2, a3, a4, a5, a6, a7, a8⟩ : M.Rul).to_) := .inr hi
    by_cases k1 : a0 = 1
    · subst k1
      have hm1 : 1 ≤ a1 ∧ a1 ≤ 12 ∧ 1 ≤ a2 := by simp [M.may] at hm; omega
      have ho := Of y a1 a2
      by_cases hd : M.isDate y a1 a2
      · rw [if_pos hd] at ho
        have hr := M.day_rng hd
        have hrd : M.rday ⟨1, a1, a2, a3, a4, a5, a6, a7, a8⟩ y = some (M.dayOf y a1 a2) := by unfold M.rday; rw [if_pos rfl]; simp only; rw [if_pos hd.2.2.2.2.2]
        refine ⟨(M.moved we (M.dayOf y a1 a2) a8, true), start _ ?_, fun x => ?_⟩
        · refine Ev.step (fun k => ?_) (Ev.bind (f := fun k (t : Int × Int) => if t.2 = 0 then (tenorref6_moved.f k we l t.1 a8).bind fun s => some (s, true) else some (0, false)) ho ?_)
          · simp only [tenorref6_day.j0, Bool.false_eq_true, if_false, if_true]
          · exact Ev.congr (fun k => if_pos rfl) (Ev.bind (f := fun _ s => some (s, true)) (moved we _ a8 l h0 h1 (by omega) (by omega)) (Ev.now _))
        · unfold M.gives; rw [if_pos hin, hrd]; simp
      · rw [if_neg hd] at ho
        have hrd : M.rday ⟨1, a1, a2, a3, a4, a5, a6, a7, a8⟩ y = none := by
          unfold M.rday; rw [if_pos rfl]; simp only
          rw [if_neg (fun h => hd ⟨hy0, hy1, hm1.1, hm1.2.1, hm1.2.2, h⟩)]
        refine ⟨(0, false), start _ ?_, fun x => ?_⟩
        · refine Ev.step (fun k => ?_) (Ev.bind (f := fun k (t : Int × Int) => if t.2 = 0 then (tenorref6_moved.f k we l t.1 a8).bind fun s => some (s, true) else some (0, false)) ho ?_)
          · simp only [tenorref6_day.j0, Bool.false_eq_true, if_false, if_true]
          · exact Ev.congr (fun k => if_neg (by decide)) (Ev.now _)
        · unfold M.gives; rw [if_pos hin, hrd]; simp
    by_cases k2 : a0 = 2
    · subst k2
      have hm1 : 1 ≤ a1 ∧ a1 ≤ 12 ∧ 0 ≤ a4 ∧ a4 ≤ 6 ∧ 1 ≤ a3 ∧ a3 ≤ 5 := by simp [M.may] at hm; omega
      have hrd : M.rday ⟨2, a1, a2, a3, a4, a5, a6, a7, a8⟩ y = some (M.nthDay y a1 a4 a3) := rfl
      have hn := nth y a1 a4 a3 hy0 hy1 hm1.1 hm1.2.1 hm1.2.2.2.2.1 hm1.2.2.2.2.2 hm1.2.2.1 hm1.2.2.2.1
      have hr := M.rday_near hm hy0 hy1 hrd
      have hb := L.before_rng y (by omega) (by omega)
      have hb2 := L.before_rng (y + 1) (by omega) (by omega)
      refine ⟨(M.moved we (M.nthDay y a1 a4 a3) a8, true), start _ ?_, fun x => ?_⟩
      · refine Ev.step (fun k => ?_) (Ev.bind (f := fun k t => (tenorref6_moved.f k we l t a8).bind fun s => some (s, true)) hn (Ev.bind (f := fun _ s => some (s, true)) (moved we _ a8 l h0 h1 (by omega) (by omega)) (Ev.now _)))
        simp only [tenorref6_day.j0, Bool.false_eq_true, if_false, show ¬ ((2 : Int) = 1) from by decide, if_true]
      · unfold M.gives; rw [if_pos hin, hrd]; simp
    by_cases k3 : a0 = 3
    · subst k3
      have hm1 : -100 ≤ a5 ∧ a5 ≤ 100 := by simp [M.may] at hm; omega
      have hrd : M.rday ⟨3, a1, a2, a3, a4, a5, a6, a7, a8⟩ y = some (M.easterDay y + a5) := rfl
      have hr := M.rday_near hm hy0 hy1 hrd
      have hb := L.before_rng y (by omega) (by omega)
      have hb2 := L.before_rng (y + 1) (by omega) (by omega)
      refine ⟨(M.moved we (M.easterDay y + a5) a8, true), start _ ?_, fun x => ?_⟩
      · refine Ev.step (fun k => ?_) (Ev.bind (f := fun _ s => some (s, true)) (moved we (M.easterDay y + a5) a8 l h0 h1 (by omega) (by omega)) (Ev.now _))
        simp only [tenorref6_day.j0, Bool.false_eq_true, if_false, show ¬ ((3 : Int) = 1) from by decide, show ¬ ((3 : Int) = 2) from by decide, if_true]
        unfold tenorref5_Easter.f H.easterF
        rw [if_pos ⟨hy0, hy1⟩]
        simp only [Option.bind_some]
        rw [w64 (by omega) (by omega)]
      · unfold M.gives; rw [if_pos hin, hrd]; simp
    · unfold M.may at hm
      simp [k1, k2, k3, h4] at hm
  · refine ⟨(0, false), ?_, fun x => ?_⟩
    · refine Ev.congr (fun k => ?_) (Ev.step (g := fun k => tenorref6_day.j0 k y true we l a0 a1 a2 a3 a4 a5 a6 a7 a8) (f := fun _ => some ((0 : Int), false)) (fun k => by simp only [tenorref6_day.j0, if_true]) (Ev.now _))
      unfold tenorref6_day.f
      by_cases h2 : y < a6
      · rw [if_pos h2]
      · rw [if_neg h2, show decide (y > a7) = true from decide_eq_true (by omega)]
    · unfold M.gives
      rw [if_neg (by simp only; intro h; rcases h with h | h; exact h4 h; exact hi h)]; rfl

theorem rd_eq (l : List S63) (i : Nat) (h : i < l.length) : rd_T63 l (i : Int) = l[i] := by simp [rd_T63, h]

/-- The years round a rule. -/
theorem holiday_l1 (we : Int) (l : List S63) (x : Int) (a0 a1 a2 a3 a4 a5 a6 a7 a8 Y u v i : Int) (h0 : 0 ≤ we) (h1 : we ≤ 126) (hm : M.may ⟨a0, a1, a2, a3, a4, a5, a6, a7, a8⟩ = true) (h4 : ¬ a0 = 4) (hY : 1900 ≤ Y) (hY1 : Y ≤ 2199) (ans : Bool)
    (hrest : Ev (fun k => tenorref6_holiday.l0 k x (wrap64 (i + 1)) we l Y u v) ans) :
    ∀ (f : Nat) (y : Int), Y - 1 ≤ y → Y + 2 - y = f → Ev (fun k => tenorref6_holiday.l1 k x i y we l Y u v a0 a1 a2 a3 a4 a5 a6 a7 a8) ((decide (y ≤ Y + 1) && M.gives we ⟨a0, a1, a2, a3, a4, a5, a6, a7, a8⟩ y x) || (decide (y + 1 ≤ Y + 1) && M.gives we ⟨a0, a1, a2, a3, a4, a5, a6, a7, a8⟩ (y + 1) x) || (decide (y + 2 ≤ Y + 1) && M.gives we ⟨a0, a1, a2, a3, a4, a5, a6, a7, a8⟩ (y + 2) x) || ans)
  | 0, y, a, b => by
    rw [show decide (y ≤ Y + 1) = false from decide_eq_false (by omega), show decide (y + 1 ≤ Y + 1) = false from decide_eq_false (by omega), show decide (y + 2 ≤ Y + 1) = false from decide_eq_false (by omega),
      Bool.false_and, Bool.false_and, Bool.false_and, Bool.false_or, Bool.false_or, Bool.false_or]
    refine Ev.step (fun k => ?_) hrest
    simp only [tenorref6_holiday.l1]
    rw [w64 (x := Y + 1) (by omega) (by omega), if_neg (by omega)]
  | f + 1, y, a, b => by
    have ih := holiday_l1 we l x a0 a1 a2 a3 a4 a5 a6 a7 a8 Y u v i h0 h1 hm h4 hY hY1 ans hrest f (y + 1) (by omega) (by omega)
    obtain ⟨p, hp, hg⟩ := day we l a0 a1 a2 a3 a4 a5 a6 a7 a8 y h0 h1 hm h4
    refine Ev.step (fun k => ?_) (Ev.bind (f := fun k (t : Int × Bool) => if t.2 = true then (if t.1 = x then some true else tenorref6_holiday.l1 k x i (y + 1) we l Y u v a0 a1 a2 a3 a4 a5 a6 a7 a8) else tenorref6_holiday.l1 k x i (y + 1) we l Y u v a0 a1 a2 a3 a4 a5 a6 a7 a8) hp ?_)
    · simp only [tenorref6_holiday.l1]
      rw [w64 (x := Y + 1) (by omega) (by omega), if_pos (by omega), w64 (x := y + 1) (by omega) (by omega)]
    · rw [show decide (y ≤ Y + 1) = true from decide_eq_true (by omega), Bool.true_and, hg x]
      have e3 : (decide (y + 1 + 2 ≤ Y + 1)) = false := decide_eq_false (by omega)
      rw [e3, Bool.false_and, Bool.or_false, show y + 1 + 1 = y + 2 from by omega] at ih
      by_cases h2 : p.2 = true
      · by_cases h3 : p.1 = x
        · refine Ev.congr (f := fun _ => some true) (fun k => by rw [if_pos h2, if_pos h3]) ?_
          rw [h2, decide_eq_true h3, Bool.true_and, Bool.true_or, Bool.true_or, Bool.true_or]
          exact Ev.now _
        · refine Ev.congr (fun k => by rw [if_pos h2, if_neg h3]) ?_
          rw [decide_eq_false h3, Bool.and_false, Bool.false_or]
          exact ih
      · have h2' : p.2 = false := by simpa using h2
        refine Ev.congr (fun k => by rw [if_neg h2]) ?_
        rw [h2', Bool.false_and, Bool.false_or]
        exact ih

theorem gives_4 (we a1 a2 a3 a4 a5 a6 a7 a8 x : Int) (hm : M.may ⟨4, a1, a2, a3, a4, a5, a6, a7, a8⟩ = true) (hx : M.isDay x) :
    (M.gives we ⟨4, a1, a2, a3, a4, a5, a6, a7, a8⟩ (M.civY x - 1) x || M.gives we ⟨4, a1, a2, a3, a4, a5, a6, a7, a8⟩ (M.civY x) x || M.gives we ⟨4, a1, a2, a3, a4, a5, a6, a7, a8⟩ (M.civY x + 1) x) = decide (a2 = x) := by
  have hmv : a8 = 0 := by simp [M.may] at hm; omega
  subst hmv
  have hg : ∀ y, M.gives we ⟨4, a1, a2, a3, a4, a5, a6, a7, 0⟩ y x = (decide (M.civY a2 = y) && decide (a2 = x)) := by
    intro y
    unfold M.gives M.rday
    rw [if_pos (.inl rfl)]
    simp only [show ¬ ((4 : Int) = 1) from by decide, show ¬ ((4 : Int) = 2) from by decide, show ¬ ((4 : Int) = 3) from by decide, if_false]
    by_cases h : M.civY a2 = y
    · rw [if_pos h]; simp [h, H.moved_0]
    · rw [if_neg h]; simp [h]
  rw [hg, hg, hg]
  by_cases e : a2 = x
  · subst e; simp
  · simp [e]

theorem holiday_l0 (we : Int) (l : List S63) (x u v : Int) (h0 : 0 ≤ we) (h1 : we ≤ 126) (hm : ∀ r ∈ l, M.may (H.ru r) = true) (hlen : l.length ≤ 64) (hx : M.isDay x) :
    ∀ (f i : Nat), i ≤ l.length → l.length - i = f → Ev (fun k => tenorref6_holiday.l0 k x (i : Int) we l (M.civY x) u v) (M.hol we ((l.drop i).map H.ru) x)
  | 0, i, a, b => by
    have e : i = l.length := by omega
    refine Ev.step (f := fun _ => some (M.hol we ((l.drop i).map H.ru) x)) (fun k => ?_) (Ev.now _)
    simp only [tenorref6_holiday.l0]
    rw [if_neg (by omega), e, List.drop_length]; rfl
  | f + 1, i, a, b => by
    have hlt : i < l.length := by omega
    have ih := holiday_l0 we l x u v h0 h1 hm hlen hx f (i + 1) (by omega) (by omega)
    have hmi := hm l[i] (List.getElem_mem hlt)
    have hy := M.yearOf_spec x hx.1 hx.2
    have hy0 : 1900 ≤ M.civY x := hy.1
    have hy1 : M.civY x ≤ 2199 := hy.2.1
    rw [List.drop_eq_getElem_cons hlt, List.map_cons]
    have c1 : (i : Int) < (l.length : Int) := by omega
    have c2 : (0 : Int) ≤ (i : Int) := by omega
    have hw2 : wrap64 (M.civY x - 1) = M.civY x - 1 := w64 (by omega) (by omega)
    have hw : wrap64 ((i : Int) + 1) = ((i + 1 : Nat) : Int) := by rw [w64 (by omega) (by omega)]; push_cast; rfl
    have hcons : M.hol we (H.ru l[i] :: (l.drop (i + 1)).map H.ru) x = ((M.gives we (H.ru l[i]) (M.civY x - 1) x || M.gives we (H.ru l[i]) (M.civY x) x || M.gives we (H.ru l[i]) (M.civY x + 1) x) || M.hol we ((l.drop (i + 1)).map H.ru) x) := by
      simp [M.hol]
    rw [hcons]
    have hl0 : ∀ k, tenorref6_holiday.l0 (k + 1) x (i : Int) we l (M.civY x) u v = (if (l[i].f0) = 4 then (if (l[i].f2) = x then (some true) else (tenorref6_holiday.l0 k x (((i + 1 : Nat) : Int)) we l (M.civY x) u v)) else (tenorref6_holiday.l1 k x i (M.civY x - 1) we l (M.civY x) u v l[i].f0 l[i].f1 l[i].f2 l[i].f3 l[i].f4 l[i].f5 l[i].f6 l[i].f7 l[i].f8)) := by
      intro k
      rw [tenorref6_holiday.l0]
      rw [if_pos c1, if_pos c2, rd_eq l i hlt, hw, hw2]
    generalize l[i] = r at hmi hl0 ⊢
    obtain ⟨a0, a1, a2, a3, a4, a5, a6, a7, a8⟩ := r
    simp only [H.ru] at hmi hl0 ⊢
    by_cases k4 : a0 = 4
    · subst k4
      rw [gives_4 we a1 a2 a3 a4 a5 a6 a7 a8 x hmi hx]
      by_cases h2 : a2 = x
      · rw [decide_eq_true h2, Bool.true_or]
        refine Ev.step (f := fun _ => some true) (fun k => ?_) (Ev.now _)
        rw [hl0 k, if_pos rfl, if_pos h2]
      · rw [decide_eq_false h2, Bool.false_or]
        refine Ev.step (fun k => ?_) ih
        rw [hl0 k, if_pos rfl, if_neg h2]
    · have h := holiday_l1 we l x a0 a1 a2 a3 a4 a5 a6 a7 a8 (M.civY x) u v i h0 h1 hmi k4 hy0 hy1 _ (by rw [hw]; exact ih) 3 (M.civY x - 1) (by omega) (by omega)
      rw [show decide (M.civY x - 1 ≤ M.civY x + 1) = true from decide_eq_true (by omega), show decide (M.civY x - 1 + 1 ≤ M.civY x + 1) = true from decide_eq_true (by omega), show decide (M.civY x - 1 + 2 ≤ M.civY x + 1) = true from decide_eq_true (by omega),
        show M.civY x - 1 + 1 = M.civY x from by omega, show M.civY x - 1 + 2 = M.civY x + 1 from by omega] at h
      simp only [Bool.true_and] at h
      exact Ev.step (fun k => by rw [hl0 k, if_neg k4]) h

theorem holiday (we : Int) (l : List S63) (x : Int) (h0 : 0 ≤ we) (h1 : we ≤ 126) (hm : ∀ r ∈ l, M.may (H.ru r) = true) (hlen : l.length ≤ 64) (hx : M.isDay x) : Ev (fun k => tenorref6_holiday.f k we l x) (M.hol we (l.map H.ru) x) := by
  have hc := Civil x
  rw [if_pos (show 0 ≤ x ∧ x ≤ 109572 from hx)] at hc
  have h := holiday_l0 we l x (M.civM x) (M.civD x) h0 h1 hm hlen hx l.length 0 (by omega) (by omega)
  exact Ev.congr (fun k => rfl) (Ev.bind (f := fun k (t : Int × Int × Int × Int) => tenorref6_holiday.l0 k x 0 we l t.1 t.2.1 t.2.2.1) hc h)
end Go.Proofs.Ytoncignjcgjhhaa.R

namespace Go.Proofs.Ytoncignjcgjhhaa.R
open Go.RowKit Go.Proofs.YtoncignjcgjhhaaW.PrintWords Go.Proofs.YtoncignjcgjhhaaW.PrintLast Go.Proofs.YtoncignjcgjhhaaW.PrintMore
open Go.Proofs.Ytoncignjcgjhhaa.Q
open Go.Proofs.Ytoncignjcgjhhaa.L (w64 td tm tm0)

theorem in_ (a b c : Int) : tenorref6_in.f a b c = some (decide (b ≤ a ∧ a ≤ c)) := by
  have := L.within a b c; unfold cal_within.f at this; unfold tenorref6_in.f; exact this
theorem isDay (n : Int) : tenorref6_isDay.f n = some (decide (M.isDay n)) := by
  unfold tenorref6_isDay.f; rw [in_]; rfl

theorem Check_l0 (we : Int) (l : List S63) (hlen : l.length ≤ 64) : ∀ (f i : Nat), i ≤ l.length → l.length - i = f → Ev (fun k => tenorref6_Check.l0 k (i : Int) we l) (M.chkAt ((l.drop i).map H.ru) i)
  | 0, i, a, b => by
    have e : i = l.length := by omega
    have c1 : ¬ (i : Int) < (l.length : Int) := by omega
    refine Ev.step (f := fun _ => some (M.chkAt ((l.drop i).map H.ru) i)) (fun k => ?_) (Ev.now _)
    rw [tenorref6_Check.l0, if_neg c1, e, List.drop_length]; rfl
  | f + 1, i, a, b => by
    have hlt : i < l.length := by omega
    have ih := Check_l0 we l hlen f (i + 1) (by omega) (by omega)
    have c1 : (i : Int) < (l.length : Int) := by omega
    have c2 : (0 : Int) ≤ (i : Int) := by omega
    have hw : wrap64 ((i : Int) + 1) = ((i + 1 : Nat) : Int) := by rw [w64 (by omega) (by omega)]; push_cast; rfl
    have hl0 : ∀ k, tenorref6_Check.l0 (k + 1) (i : Int) we l = if M.may (H.ru l[i]) = true then tenorref6_Check.l0 k ((i + 1 : Nat) : Int) we l else some (60, (i : Int)) := by
      intro k
      rw [tenorref6_Check.l0, if_pos c1, if_pos c2, rd_eq l i hlt, hw]
      rfl
    rw [List.drop_eq_getElem_cons hlt, List.map_cons]
    unfold M.chkAt
    by_cases hm : M.may (H.ru l[i]) = true
    · rw [if_pos hm]
      push_cast at ih
      exact Ev.step (fun k => by rw [hl0 k, if_pos hm]; push_cast; rfl) ih
    · rw [if_neg hm]
      exact Ev.step (f := fun _ => some ((60 : Int), (i : Int))) (fun k => by rw [hl0 k, if_neg hm]) (Ev.now _)

theorem Check (we : Int) (l : List S63) : Ev (fun k => tenorref6_Check.f k we l) (M.chk we (l.map H.ru)) := by
  unfold M.chk
  by_cases h : 64 < l.length
  · have c1 : (l.length : Int) > 64 := by omega
    rw [if_pos (by simpa using h)]
    exact Ev.congr (fun k => by unfold tenorref6_Check.f; rw [if_pos c1]) (Ev.now _)
  · have c1 : ¬ (l.length : Int) > 64 := by omega
    rw [if_neg (by simpa using h)]
    by_cases hw : 0 ≤ we ∧ we ≤ 126
    · rw [if_pos hw]
      have h0 := Check_l0 we l (by omega) l.length 0 (by omega) (by omega)
      refine Ev.congr (fun k => ?_) h0
      unfold tenorref6_Check.f
      rw [if_neg c1, in_, decide_eq_true hw]; rfl
    · rw [if_neg hw]
      refine Ev.congr (fun k => ?_) (Ev.now _)
      unfold tenorref6_Check.f
      rw [if_neg c1, in_, decide_eq_false hw]; rfl

theorem asked (we : Int) (l : List S63) (n : Int) : Ev (fun k => tenorref6_asked.f k we l n) (if (M.chk we (l.map H.ru)).1 = 0 then (if M.isDay n then 0 else 51) else (M.chk we (l.map H.ru)).1) := by
  refine Ev.congr (fun k => rfl) (Ev.bind (f := fun _ (t : Int × Int) => if t.1 = 0 then ((tenorref6_isDay.f n).bind fun s => if s = true then some 0 else some 51) else some t.1) (Check we l) ?_)
  by_cases h : (M.chk we (l.map H.ru)).1 = 0
  · rw [if_pos h, if_pos h, isDay, Option.bind_some]
    by_cases hd : M.isDay n
    · rw [if_pos hd, decide_eq_true hd, if_pos rfl]; exact Ev.now _
    · rw [if_neg hd, decide_eq_false hd, if_neg (by decide)]; exact Ev.now _
  · rw [if_neg h, if_neg h]; exact Ev.now _

theorem mays {we : Int} {l : List S63} (h : (M.chk we (l.map H.ru)).1 = 0) : 0 ≤ we ∧ we ≤ 126 ∧ l.length ≤ 64 ∧ ∀ r ∈ l, M.may (H.ru r) = true :=
  have h := M.chk_ok h
  ⟨h.2.2.1, h.2.2.2.1, by simpa using h.2.1, fun x hx => h.2.2.2.2 _ (List.mem_map_of_mem hx)⟩

theorem open_ {we : Int} {l : List S63} (h : (M.chk we (l.map H.ru)).1 = 0) (n : Int) (hn : M.isDay n) : Ev (fun k => tenorref6_open.f k we l n) (M.isOpen we (l.map H.ru) n) := by
  obtain ⟨h0, h1, h2, h3⟩ := mays h
  unfold M.isOpen
  cases ho : M.off we n with
  | true => exact Ev.congr (fun k => by unfold tenorref6_open.f; rw [off we n l h0 h1, ho]; rfl) (Ev.now _)
  | false =>
    refine Ev.congr (fun k => ?_) (Ev.bind (f := fun _ t => some (!t)) (holiday we l n h0 h1 h3 h2 hn) (Ev.now _))
    unfold tenorref6_open.f
    rw [off we n l h0 h1, ho]; rfl

theorem gated {α : Type} (we : Int) (l : List S63) (n : Int) (z : α) (g : Nat → Option α) (a : α) (h : (M.chk we (l.map H.ru)).1 = 0 → M.isDay n → Ev g a) :
    Ev (fun k => (tenorref6_asked.f k we l n).bind fun t => if t = 0 then ((g k).bind fun s => some (s, (0 : Int))) else some (z, t))
      (if (M.chk we (l.map H.ru)).1 = 0 then (if M.isDay n then (a, 0) else (z, 51)) else (z, (M.chk we (l.map H.ru)).1)) := by
  refine Ev.bind (f := fun k t => if t = 0 then ((g k).bind fun s => some (s, (0 : Int))) else some (z, t)) (asked we l n) ?_
  by_cases hc : (M.chk we (l.map H.ru)).1 = 0
  · rw [if_pos hc, if_pos hc]
    by_cases hd : M.isDay n
    · rw [if_pos hd, if_pos hd]; exact Ev.congr (fun k => if_pos rfl) (Ev.bind (f := fun _ s => some (s, (0 : Int))) (h hc hd) (Ev.now _))
    · rw [if_neg hd, if_neg hd]; exact Ev.congr (fun k => if_neg (by decide)) (Ev.now _)
  · rw [if_neg hc, if_neg hc]; exact Ev.congr (fun k => if_neg hc) (Ev.now _)

theorem Holiday (we : Int) (l : List S63) (n : Int) : Ev (fun k => tenorref6_Holiday.f k we l n) (M.Holiday we (l.map H.ru) n) :=
  gated we l n false (fun k => tenorref6_holiday.f k we l n) _ fun hc hd => by
    obtain ⟨h0, h1, h2, h3⟩ := mays hc
    exact holiday we l n h0 h1 h3 h2 hd
theorem Open (we : Int) (l : List S63) (n : Int) : Ev (fun k => tenorref6_Open.f k we l n) (M.Open we (l.map H.ru) n) :=
  gated we l n false (fun k => tenorref6_open.f k we l n) _ fun hc hd => open_ hc n hd

end Go.Proofs.Ytoncignjcgjhhaa.R
