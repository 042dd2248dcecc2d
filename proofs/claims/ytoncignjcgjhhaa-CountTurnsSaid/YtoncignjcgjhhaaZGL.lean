/- Contracts and facts of functions of the program (calendar, dates and their documents), joined in one text by a program of this session. No condition but what each theorem states. -/
import Derived.Test.YtoncignjcgjhhaaZGA
import Derived.Test.YtoncignjcgjhhaaZGF
import Derived.Test.YtoncignjcgjhhaaZGG
import Derived.Test.YtoncignjcgjhhaaZGJ
import Derived.Test.YtoncignjcgjhhaaZGK
set_option linter.unusedVariables false
set_option linter.unusedSimpArgs false
namespace Go.Proofs.Ytoncignjcgjhhaa.Q
open Go.RowKit Go.Proofs.YtoncignjcgjhhaaW.PrintWords Go.Proofs.YtoncignjcgjhhaaW.PrintLast Go.Proofs.YtoncignjcgjhhaaW.PrintMore
attribute [local go_sem] max2_int min2_int max_two min_two max_three min_three max_four min_four   -- for this text's walks alone
set_option linter.unusedVariables false
set_option linter.unusedSimpArgs false

/-! ### tenorlaw6_awake: function 32 -/
def tenorlaw6_awake.f  : Option (Bool) := (some (([(⟨1, 1, 1, 0, 0, 0, 1900, 2199, 1⟩ : S63)] : List (S63)) : List (S63))).bind fun y478 => ((cal_Open.f 96 y478 44926).bind fun bt482 => ((cal_Holiday.f 96 y478 44926).bind fun bt484 => ((cal_Adjust.f 96 y478 44925 1).bind fun bt486 => ((cal_Add.f 96 y478 44924 1).bind fun bt488 => ((cal_Count.f 96 y478 44923 44930).bind fun bt490 => (if bt482.2 = 0 then (if bt484.2 = 0 then (if bt486.2 = 0 then (if bt488.2 = 0 then (if bt490.2 = 0 then (if bt482.1 = true then (some false) else (if bt484.1 = true then (if bt486.1 = 44927 then (if bt488.1 = 44927 then (some (bt490.1 == 4)) else (some false)) else (some false)) else (some false))) else (some false)) else (some false)) else (some false)) else (some false)) else (some false)))))))
theorem tenorlaw6_awake.told : tenorlaw6_awake.f = some true := by decide +kernel
set_option maxHeartbeats 8000000 in
set_option maxRecDepth 100000 in
theorem tenorlaw6_awake.calls  (r : Bool) (w : World) (h : tenorlaw6_awake.f  = some r) :
    Calls Try.prog 32 #[] w fun e w' => e = .returned (.bool r) ∧ Below w.heap.size w w' := by
  have hu63 := Try.underlying63
  have hu24 := Try.underlying24
  have HB := Aside0.mk (Below.refl w.heap.size w)
  have H : ((some (([(⟨1, 1, 1, 0, 0, 0, 1900, 2199, 1⟩ : S63)] : List (S63)) : List (S63))).bind fun y478 => ((cal_Open.f 96 y478 44926).bind fun bt482 => ((cal_Holiday.f 96 y478 44926).bind fun bt484 => ((cal_Adjust.f 96 y478 44925 1).bind fun bt486 => ((cal_Add.f 96 y478 44924 1).bind fun bt488 => ((cal_Count.f 96 y478 44923 44930).bind fun bt490 => (if bt482.2 = 0 then (if bt484.2 = 0 then (if bt486.2 = 0 then (if bt488.2 = 0 then (if bt490.2 = 0 then (if bt482.1 = true then (some false) else (if bt484.1 = true then (if bt486.1 = 44927 then (if bt488.1 = 44927 then (some (bt490.1 == 4)) else (some false)) else (some false)) else (some false))) else (some false)) else (some false)) else (some false)) else (some false)) else (some false)))))))) = some r := h
  have HT : r = true := Option.some.inj (h.symm.trans tenorlaw6_awake.told)
  clear h
  obtain ⟨y478, hy478⟩ : ∃ y_ : List (S63), y_ = (([(⟨1, 1, 1, 0, 0, 0, 1900, 2199, 1⟩ : S63)] : List (S63))) := ⟨_, rfl⟩
  replace H : ((cal_Open.f 96 y478 44926).bind fun bt482 => ((cal_Holiday.f 96 y478 44926).bind fun bt484 => ((cal_Adjust.f 96 y478 44925 1).bind fun bt486 => ((cal_Add.f 96 y478 44924 1).bind fun bt488 => ((cal_Count.f 96 y478 44923 44930).bind fun bt490 => (if bt482.2 = 0 then (if bt484.2 = 0 then (if bt486.2 = 0 then (if bt488.2 = 0 then (if bt490.2 = 0 then (if bt482.1 = true then (some false) else (if bt484.1 = true then (if bt486.1 = 44927 then (if bt488.1 = 44927 then (some (bt490.1 == 4)) else (some false)) else (some false)) else (some false))) else (some false)) else (some false)) else (some false)) else (some false)) else (some false))))))) = some r := by first | (rw [hy478]; with_reducible exact H) | (have H2_ := (Option.bind_some _ _).symm.trans H; rw [hy478]; with_reducible exact H2_) | (have H2_ := (Option.bind_some _ _).symm.trans H; with_reducible exact H2_) | with_reducible exact H | (rw [hy478]; exact H) | exact H
  have Ny478 := Aside0.mk hy478
  clear hy478
  replace H := Option.bind_eq_some_iff.mp H
  obtain ⟨⟨t482, t483⟩, A10, H⟩ := H
  replace H : ((cal_Holiday.f 96 y478 44926).bind fun bt484 => ((cal_Adjust.f 96 y478 44925 1).bind fun bt486 => ((cal_Add.f 96 y478 44924 1).bind fun bt488 => ((cal_Count.f 96 y478 44923 44930).bind fun bt490 => (if t483 = 0 then (if bt484.2 = 0 then (if bt486.2 = 0 then (if bt488.2 = 0 then (if bt490.2 = 0 then (if t482 = true then (some false) else (if bt484.1 = true then (if bt486.1 = 44927 then (if bt488.1 = 44927 then (some (bt490.1 == 4)) else (some false)) else (some false)) else (some false))) else (some false)) else (some false)) else (some false)) else (some false)) else (some false)))))) = some r := H
  have A1 := Aside0.mk A10
  clear A10
  replace H := Option.bind_eq_some_iff.mp H
  obtain ⟨⟨t484, t485⟩, A20, H⟩ := H
  replace H : ((cal_Adjust.f 96 y478 44925 1).bind fun bt486 => ((cal_Add.f 96 y478 44924 1).bind fun bt488 => ((cal_Count.f 96 y478 44923 44930).bind fun bt490 => (if t483 = 0 then (if t485 = 0 then (if bt486.2 = 0 then (if bt488.2 = 0 then (if bt490.2 = 0 then (if t482 = true then (some false) else (if t484 = true then (if bt486.1 = 44927 then (if bt488.1 = 44927 then (some (bt490.1 == 4)) else (some false)) else (some false)) else (some false))) else (some false)) else (some false)) else (some false)) else (some false)) else (some false))))) = some r := H
  have A2 := Aside0.mk A20
  clear A20
  replace H := Option.bind_eq_some_iff.mp H
  obtain ⟨⟨t486, t487⟩, A30, H⟩ := H
  replace H : ((cal_Add.f 96 y478 44924 1).bind fun bt488 => ((cal_Count.f 96 y478 44923 44930).bind fun bt490 => (if t483 = 0 then (if t485 = 0 then (if t487 = 0 then (if bt488.2 = 0 then (if bt490.2 = 0 then (if t482 = true then (some false) else (if t484 = true then (if t486 = 44927 then (if bt488.1 = 44927 then (some (bt490.1 == 4)) else (some false)) else (some false)) else (some false))) else (some false)) else (some false)) else (some false)) else (some false)) else (some false)))) = some r := H
  have A3 := Aside0.mk A30
  clear A30
  replace H := Option.bind_eq_some_iff.mp H
  obtain ⟨⟨t488, t489⟩, A40, H⟩ := H
  replace H : ((cal_Count.f 96 y478 44923 44930).bind fun bt490 => (if t483 = 0 then (if t485 = 0 then (if t487 = 0 then (if t489 = 0 then (if bt490.2 = 0 then (if t482 = true then (some false) else (if t484 = true then (if t486 = 44927 then (if t488 = 44927 then (some (bt490.1 == 4)) else (some false)) else (some false)) else (some false))) else (some false)) else (some false)) else (some false)) else (some false)) else (some false))) = some r := H
  have A4 := Aside0.mk A40
  clear A40
  replace H := Option.bind_eq_some_iff.mp H
  obtain ⟨⟨t490, t491⟩, A50, H⟩ := H
  replace H : (if t483 = 0 then (if t485 = 0 then (if t487 = 0 then (if t489 = 0 then (if t491 = 0 then (if t482 = true then (some false) else (if t484 = true then (if t486 = 44927 then (if t488 = 44927 then (some (t490 == 4)) else (some false)) else (some false)) else (some false))) else (some false)) else (some false)) else (some false)) else (some false)) else (some false)) = some r := H
  have A5 := Aside0.mk A50
  clear A50
  by_cases c6 : t483 = 0
  · rw [if_pos c6] at H
    have c6b0 : (t483 == 0) = true := beq_iff_eq.mpr c6
    have c6b1 : (t483 != 0) = false := bne_eq_false_iff_eq.mpr c6
    clear c6
    by_cases c7 : t485 = 0
    · rw [if_pos c7] at H
      have c7b0 : (t485 == 0) = true := beq_iff_eq.mpr c7
      have c7b1 : (t485 != 0) = false := bne_eq_false_iff_eq.mpr c7
      clear c7
      by_cases c8 : t487 = 0
      · rw [if_pos c8] at H
        have c8b0 : (t487 == 0) = true := beq_iff_eq.mpr c8
        have c8b1 : (t487 != 0) = false := bne_eq_false_iff_eq.mpr c8
        clear c8
        by_cases c9 : t489 = 0
        · rw [if_pos c9] at H
          have c9b0 : (t489 == 0) = true := beq_iff_eq.mpr c9
          have c9b1 : (t489 != 0) = false := bne_eq_false_iff_eq.mpr c9
          clear c9
          by_cases c10 : t491 = 0
          · rw [if_pos c10] at H
            have c10b0 : (t491 == 0) = true := beq_iff_eq.mpr c10
            have c10b1 : (t491 != 0) = false := bne_eq_false_iff_eq.mpr c10
            clear c10
            by_cases c11 : t482 = true
            · subst c11
              have H1 : (some false) = some r := by rw [if_pos rfl] at H; exact H
              clear H
              have H := H1
              clear H1
              exact absurd (H.trans (congrArg some HT)) (by decide)
            · replace c11 := Bool.eq_false_iff.mpr c11
              subst c11
              have H1 : (if t484 = true then (if t486 = 44927 then (if t488 = 44927 then (some (t490 == 4)) else (some false)) else (some false)) else (some false)) = some r := by rw [if_neg (show ¬ (false = true) by decide)] at H; exact H
              clear H
              have H := H1
              clear H1
              by_cases c26 : t484 = true
              · subst c26
                have H1 : (if t486 = 44927 then (if t488 = 44927 then (some (t490 == 4)) else (some false)) else (some false)) = some r := by rw [if_pos rfl] at H; exact H
                clear H
                have H := H1
                clear H1
                by_cases c27 : t486 = 44927
                · rw [if_pos c27] at H
                  have c27b0 : (t486 == 44927) = true := beq_iff_eq.mpr c27
                  have c27b1 : (t486 != 44927) = false := bne_eq_false_iff_eq.mpr c27
                  clear c27
                  by_cases c28 : t488 = 44927
                  · rw [if_pos c28] at H
                    have c28b0 : (t488 == 44927) = true := beq_iff_eq.mpr c28
                    have c28b1 : (t488 != 44927) = false := bne_eq_false_iff_eq.mpr c28
                    clear c28
                    obtain rfl := Option.some.inj H
                    go_enter Try.func32, Try.ntmps32
                    go_wp2_with (first | ((with_reducible refine gate_dst (N := 13) rfl ?_); refine Kd.R_lit k63 _ 63 ?hg (N := 13) ?hd (xs := ([(⟨1, 1, 1, 0, 0, 0, 1900, 2199, 1⟩ : S63)] : List (S63))) (inner := [.int .i64 1, .int .i64 1, .int .i64 1, .int .i64 0, .int .i64 0, .int .i64 0, .int .i64 1900, .int .i64 2199, .int .i64 1]) (ok := fun _ => True) (okp := fun _ => True) ?hr ?hp (fun _ hk => hk) trivial (Below.refl _ _) (Nat.le_refl _) (by simp) ?_; (case hd => rfl); (case hg => rfl); (case hr => first | (go_simp; done) | (go_simp; rfl)); (case hp => exact (Reps.c9 (show Kd.M k63 _ _ _ (⟨1, 1, 1, 0, 0, 0, 1900, 2199, 1⟩ : S63) [.int .i64 1, .int .i64 1, .int .i64 1, .int .i64 0, .int .i64 0, .int .i64 0, .int .i64 1900, .int .i64 2199, .int .i64 1] from (k63_mkM _ _ _ (⟨1, 1, 1, 0, 0, 0, 1900, 2199, 1⟩ : S63) )) (Reps.none _ _))); intro v479 w29 ho30 hb hg_ hnew_; clear hg_ hnew_; (first | rw [← Ny478.out] at ho30 | (simp only [Int.reduceToNat] at ho30; rw [← Ny478.out] at ho30)); have n0_ := Aside0.mk (Kd.R_lower ho30 (below_size (by repeat (first | (with_reducible first | exact HB.out | apply below_alloc | apply pw_below_drewN | apply below_drew1) | exact HB.out)))); have n1_ := Aside0.mk (below_step (by repeat (first | (with_reducible first | exact HB.out | apply below_alloc | apply pw_below_drewN | apply below_drew1) | exact HB.out)) hb); clear HB; have HO480 := n0_; have HB := n1_; clear n0_ n1_; clear hb ho30; obtain ⟨Ao31, co31, eo31⟩ := Kd.R_slice HO480.out; subst eo31) | ((with_reducible refine gate_dst (N := 1) rfl ?_); refine box_event ?hg (N := 1) ?hd (cs := #[.int .i64 0, .slice none 0 0]) (t := 24) ?hr ?_; (case hd => rfl); (case hg => rfl); (case hr => first | (go_simp; done) | (go_simp; rfl)); intro gb481 hg w32 hbox hb; have n0_ := Aside0.mk (Kd.R_below (by (with_reducible repeat (first | apply Kd.R_alloc | apply Kd.R_drewN | apply Kd.R_drew)); exact HO480.out) hb); have n1_ := Aside0.mk (below_step (by repeat (first | (with_reducible first | exact HB.out | apply below_alloc | apply pw_below_drewN | apply below_drew1) | exact HB.out)) hb); have n2_ := Aside0.mk (hbox); have n3_ := Aside0.mk ((by rw [hg]; exact (below_size (by repeat (first | (with_reducible first | exact HB.out | apply below_alloc | apply pw_below_drewN | apply below_drew1) | exact HB.out))) : w.heap.size ≤ gb481)); have n4_ := Aside0.mk ((by rw [hg]; exact (below_size (by repeat (first | (with_reducible first | exact HB.out | apply below_alloc | apply pw_below_drewN | apply below_drew1) | exact HB.out))) : w.heap.size ≤ gb481)); clear HO480; clear HB; have HO480 := n0_; have HB := n1_; have BK481 := n2_; have GW481 := n3_; have GE481 := n4_; clear n0_ n1_ n2_ n3_ n4_; clear hb hbox hg; have hcz33_0 : w32.cell? ⟨gb481, 0, none⟩ = some (.int .i64 0) := (blk_cell BK481.out 0).trans rfl; have hcz33_1 : w32.cell? ⟨gb481, 1, none⟩ = some (.slice none 0 0) := (blk_cell BK481.out 1).trans rfl; have hfz33_0 := blk_frozen BK481.out 0; have hfz33_1 := blk_frozen BK481.out 1) | ((with_reducible refine gate_callee (f := 33) rfl ?_); refine goesL_ (some 17) rfl rfl Try.func33 (by kernel_rfl) rfl #[.agg #[.int .i64 96, .slice Ao31 y478.length co31], .int .i64 44926] rfl (by (try simp only [List.map_toArray, List.map_cons, List.map_nil]); first | done | rfl | (simp only [List.length_drop, List.length_take]; rfl)) ?_; (with_reducible refine (cal_Open.calls 96 _ _ y478 44926 false t483 _ ?side1 ?side2 A1.out).mono ?_); (case side1 => refine (Kd.R_reads' (e := 63) (base := w.heap.size) (ok := fun k_ => True) (n := y478.length) (c := co31) ?_).2.2; exact (by (with_reducible repeat (first | apply Kd.R_alloc | apply Kd.R_drewN | apply Kd.R_drew)); exact (Kd.R_mono (Kd.R_far (p := ⟨gb481, 1, none⟩) (Kd.R_far (p := ⟨gb481, 0, none⟩) (Kd.R_types HO480.out BK481.out (by decide)) (fun _ hk => hk.2) (.int .i64 96)) (fun _ hk => hk.2) (.slice Ao31 y478.length co31)) (fun _ h_ => h_.1)))); (case side2 => exact (Kd.R_reads' HO480.out).2.1); rintro e w34 ⟨rfl, hb⟩; refine ⟨_, rfl, ?_⟩; have n0_ := Aside0.mk (Kd.R_below (by (with_reducible repeat (first | apply Kd.R_alloc | apply Kd.R_drewN | apply Kd.R_drew)); exact (Kd.R_mono (Kd.R_far (p := ⟨gb481, 1, none⟩) (Kd.R_far (p := ⟨gb481, 0, none⟩) (Kd.R_types HO480.out BK481.out (by decide)) (fun _ hk => hk.2) (.int .i64 96)) (fun _ hk => hk.2) (.slice Ao31 y478.length co31)) (fun _ h_ => h_.1))) hb); have n1_ := Aside0.mk (blk_below (g := gb481) (o := .cells #[.int .i64 96, .slice Ao31 y478.length co31] 24 (0, 0)) (by (with_reducible repeat (first | refine blk_drewN ?_ _ | refine blk_drew ?_ | refine blk_alloc ?_ _)); refine blk_put (cs := #[.int .i64 96, .slice none 0 0]) ?_ 1 _ rfl; (with_reducible repeat (first | refine blk_drewN ?_ _ | refine blk_drew ?_ | refine blk_alloc ?_ _)); refine blk_put (cs := #[.int .i64 0, .slice none 0 0]) ?_ 0 _ rfl; (with_reducible repeat (first | refine blk_drewN ?_ _ | refine blk_drew ?_ | refine blk_alloc ?_ _)); exact BK481.out) hb); have n2_ := Aside0.mk (below_step (by repeat (first | (with_reducible first | exact HB.out | apply below_alloc | apply pw_below_drewN | apply below_drew1 | refine below_set ?_ GE481.out) | exact HB.out)) hb); clear HO480; clear BK481; clear HB; have HO480 := n0_; have BK481 := n1_; have HB := n2_; clear n0_ n1_ n2_; (try clear hb); (try clear hb2); (try clear hk); (try clear hi); have hcz35_0 : w34.cell? ⟨gb481, 0, none⟩ = some (.int .i64 96) := (blk_cell BK481.out 0).trans rfl; have hcz35_1 : w34.cell? ⟨gb481, 1, none⟩ = some (.slice Ao31 y478.length co31) := (blk_cell BK481.out 1).trans rfl; have hfz35_0 := blk_frozen BK481.out 0; have hfz35_1 := blk_frozen BK481.out 1) | ((with_reducible refine gate_callee (f := 35) rfl ?_); refine goesL_ (some 22) rfl rfl Try.func35 (by kernel_rfl) rfl #[.agg #[.int .i64 96, .slice Ao31 y478.length co31], .int .i64 44926] rfl (by (try simp only [List.map_toArray, List.map_cons, List.map_nil]); first | done | rfl | (simp only [List.length_drop, List.length_take]; rfl)) ?_; (with_reducible refine (cal_Holiday.calls 96 _ _ y478 44926 true t485 _ ?side1 ?side2 A2.out).mono ?_); (case side1 => repeat (first | exact (Kd.R_reads' HO480.out).2.2 | (with_reducible refine Kd.C_alloc ?_ _) | (with_reducible refine Kd.C_drewN ?_ _) | (with_reducible refine Kd.C_drew ?_))); (case side2 => exact (Kd.R_reads' HO480.out).2.1); rintro e w36 ⟨rfl, hb⟩; refine ⟨_, rfl, ?_⟩; have n0_ := Aside0.mk (Kd.R_below (by (with_reducible repeat (first | apply Kd.R_alloc | apply Kd.R_drewN | apply Kd.R_drew)); exact HO480.out) hb); have n1_ := Aside0.mk (blk_below (g := gb481) (o := .cells #[.int .i64 96, .slice Ao31 y478.length co31] 24 (0, 0)) (by (with_reducible repeat (first | refine blk_drewN ?_ _ | refine blk_drew ?_ | refine blk_alloc ?_ _)); exact BK481.out) hb); have n2_ := Aside0.mk (below_step (by repeat (first | (with_reducible first | exact HB.out | apply below_alloc | apply pw_below_drewN | apply below_drew1 | refine below_set ?_ GE481.out) | exact HB.out)) hb); clear HO480; clear BK481; clear HB; have HO480 := n0_; have BK481 := n1_; have HB := n2_; clear n0_ n1_ n2_; (try clear hb); (try clear hb2); (try clear hk); (try clear hi); have hcz37_0 : w36.cell? ⟨gb481, 0, none⟩ = some (.int .i64 96) := (blk_cell BK481.out 0).trans rfl; have hcz37_1 : w36.cell? ⟨gb481, 1, none⟩ = some (.slice Ao31 y478.length co31) := (blk_cell BK481.out 1).trans rfl; have hfz37_0 := blk_frozen BK481.out 0; have hfz37_1 := blk_frozen BK481.out 1) | ((with_reducible refine gate_callee (f := 38) rfl ?_); refine goesL_ (some 27) rfl rfl Try.func38 (by kernel_rfl) rfl #[.agg #[.int .i64 96, .slice Ao31 y478.length co31], .int .i64 44925, .int .i64 1] rfl (by (try simp only [List.map_toArray, List.map_cons, List.map_nil]); first | done | rfl | (simp only [List.length_drop, List.length_take]; rfl)) ?_; (with_reducible refine (cal_Adjust.calls 96 _ _ y478 44925 1 t486 t487 _ ?side1 ?side2 A3.out).mono ?_); (case side1 => repeat (first | exact (Kd.R_reads' HO480.out).2.2 | (with_reducible refine Kd.C_alloc ?_ _) | (with_reducible refine Kd.C_drewN ?_ _) | (with_reducible refine Kd.C_drew ?_))); (case side2 => exact (Kd.R_reads' HO480.out).2.1); rintro e w38 ⟨rfl, hb⟩; refine ⟨_, rfl, ?_⟩; have n0_ := Aside0.mk (Kd.R_below (by (with_reducible repeat (first | apply Kd.R_alloc | apply Kd.R_drewN | apply Kd.R_drew)); exact HO480.out) hb); have n1_ := Aside0.mk (blk_below (g := gb481) (o := .cells #[.int .i64 96, .slice Ao31 y478.length co31] 24 (0, 0)) (by (with_reducible repeat (first | refine blk_drewN ?_ _ | refine blk_drew ?_ | refine blk_alloc ?_ _)); exact BK481.out) hb); have n2_ := Aside0.mk (below_step (by repeat (first | (with_reducible first | exact HB.out | apply below_alloc | apply pw_below_drewN | apply below_drew1 | refine below_set ?_ GE481.out) | exact HB.out)) hb); clear HO480; clear BK481; clear HB; have HO480 := n0_; have BK481 := n1_; have HB := n2_; clear n0_ n1_ n2_; (try clear hb); (try clear hb2); (try clear hk); (try clear hi); have hcz39_0 : w38.cell? ⟨gb481, 0, none⟩ = some (.int .i64 96) := (blk_cell BK481.out 0).trans rfl; have hcz39_1 : w38.cell? ⟨gb481, 1, none⟩ = some (.slice Ao31 y478.length co31) := (blk_cell BK481.out 1).trans rfl; have hfz39_0 := blk_frozen BK481.out 0; have hfz39_1 := blk_frozen BK481.out 1) | ((with_reducible refine gate_callee (f := 40) rfl ?_); refine goesL_ (some 32) rfl rfl Try.func40 (by kernel_rfl) rfl #[.agg #[.int .i64 96, .slice Ao31 y478.length co31], .int .i64 44924, .int .i64 1] rfl (by (try simp only [List.map_toArray, List.map_cons, List.map_nil]); first | done | rfl | (simp only [List.length_drop, List.length_take]; rfl)) ?_; (with_reducible refine (cal_Add.calls 96 _ _ y478 44924 1 t488 t489 _ ?side1 ?side2 A4.out).mono ?_); (case side1 => repeat (first | exact (Kd.R_reads' HO480.out).2.2 | (with_reducible refine Kd.C_alloc ?_ _) | (with_reducible refine Kd.C_drewN ?_ _) | (with_reducible refine Kd.C_drew ?_))); (case side2 => exact (Kd.R_reads' HO480.out).2.1); rintro e w40 ⟨rfl, hb⟩; refine ⟨_, rfl, ?_⟩; have n0_ := Aside0.mk (Kd.R_below (by (with_reducible repeat (first | apply Kd.R_alloc | apply Kd.R_drewN | apply Kd.R_drew)); exact HO480.out) hb); have n1_ := Aside0.mk (blk_below (g := gb481) (o := .cells #[.int .i64 96, .slice Ao31 y478.length co31] 24 (0, 0)) (by (with_reducible repeat (first | refine blk_drewN ?_ _ | refine blk_drew ?_ | refine blk_alloc ?_ _)); exact BK481.out) hb); have n2_ := Aside0.mk (below_step (by repeat (first | (with_reducible first | exact HB.out | apply below_alloc | apply pw_below_drewN | apply below_drew1 | refine below_set ?_ GE481.out) | exact HB.out)) hb); clear HO480; clear BK481; clear HB; have HO480 := n0_; have BK481 := n1_; have HB := n2_; clear n0_ n1_ n2_; (try clear hb); (try clear hb2); (try clear hk); (try clear hi); have hcz41_0 : w40.cell? ⟨gb481, 0, none⟩ = some (.int .i64 96) := (blk_cell BK481.out 0).trans rfl; have hcz41_1 : w40.cell? ⟨gb481, 1, none⟩ = some (.slice Ao31 y478.length co31) := (blk_cell BK481.out 1).trans rfl; have hfz41_0 := blk_frozen BK481.out 0; have hfz41_1 := blk_frozen BK481.out 1) | ((with_reducible refine gate_callee (f := 42) rfl ?_); refine goesL_ (some 37) rfl rfl Try.func42 (by kernel_rfl) rfl #[.agg #[.int .i64 96, .slice Ao31 y478.length co31], .int .i64 44923, .int .i64 44930] rfl (by (try simp only [List.map_toArray, List.map_cons, List.map_nil]); first | done | rfl | (simp only [List.length_drop, List.length_take]; rfl)) ?_; (with_reducible refine (cal_Count.calls 96 _ _ y478 44923 44930 t490 t491 _ ?side1 ?side2 A5.out).mono ?_); (case side1 => repeat (first | exact (Kd.R_reads' HO480.out).2.2 | (with_reducible refine Kd.C_alloc ?_ _) | (with_reducible refine Kd.C_drewN ?_ _) | (with_reducible refine Kd.C_drew ?_))); (case side2 => exact (Kd.R_reads' HO480.out).2.1); rintro e w42 ⟨rfl, hb⟩; refine ⟨_, rfl, ?_⟩; have n0_ := Aside0.mk (Kd.R_below (by (with_reducible repeat (first | apply Kd.R_alloc | apply Kd.R_drewN | apply Kd.R_drew)); exact HO480.out) hb); have n1_ := Aside0.mk (blk_below (g := gb481) (o := .cells #[.int .i64 96, .slice Ao31 y478.length co31] 24 (0, 0)) (by (with_reducible repeat (first | refine blk_drewN ?_ _ | refine blk_drew ?_ | refine blk_alloc ?_ _)); exact BK481.out) hb); have n2_ := Aside0.mk (below_step (by repeat (first | (with_reducible first | exact HB.out | apply below_alloc | apply pw_below_drewN | apply below_drew1 | refine below_set ?_ GE481.out) | exact HB.out)) hb); clear HO480; clear BK481; clear HB; have HO480 := n0_; have BK481 := n1_; have HB := n2_; clear n0_ n1_ n2_; (try clear hb); (try clear hb2); (try clear hk); (try clear hi)))
                    go_ret
                    exact ⟨by first | rfl | (simp [errW_none, errW_some] <;> rfl) | (simp [*, errW_none, errW_some] <;> rfl), by repeat (first | (with_reducible first | exact HB.out | apply below_alloc | apply pw_below_drewN | apply below_drew1 | refine below_set ?_ GE481.out) | exact HB.out)⟩
                  · rw [if_neg c28] at H
                    have c28b0 : (t488 == 44927) = false := beq_eq_false_iff_ne.mpr c28
                    have c28b1 : (t488 != 44927) = true := bne_iff_ne.mpr c28
                    exact absurd (H.trans (congrArg some HT)) (by decide)
                · rw [if_neg c27] at H
                  have c27b0 : (t486 == 44927) = false := beq_eq_false_iff_ne.mpr c27
                  have c27b1 : (t486 != 44927) = true := bne_iff_ne.mpr c27
                  exact absurd (H.trans (congrArg some HT)) (by decide)
              · replace c26 := Bool.eq_false_iff.mpr c26
                subst c26
                have H1 : (some false) = some r := by rw [if_neg (show ¬ (false = true) by decide)] at H; exact H
                clear H
                have H := H1
                clear H1
                exact absurd (H.trans (congrArg some HT)) (by decide)
          · rw [if_neg c10] at H
            have c10b0 : (t491 == 0) = false := beq_eq_false_iff_ne.mpr c10
            have c10b1 : (t491 != 0) = true := bne_iff_ne.mpr c10
            exact absurd (H.trans (congrArg some HT)) (by decide)
        · rw [if_neg c9] at H
          have c9b0 : (t489 == 0) = false := beq_eq_false_iff_ne.mpr c9
          have c9b1 : (t489 != 0) = true := bne_iff_ne.mpr c9
          exact absurd (H.trans (congrArg some HT)) (by decide)
      · rw [if_neg c8] at H
        have c8b0 : (t487 == 0) = false := beq_eq_false_iff_ne.mpr c8
        have c8b1 : (t487 != 0) = true := bne_iff_ne.mpr c8
        exact absurd (H.trans (congrArg some HT)) (by decide)
    · rw [if_neg c7] at H
      have c7b0 : (t485 == 0) = false := beq_eq_false_iff_ne.mpr c7
      have c7b1 : (t485 != 0) = true := bne_iff_ne.mpr c7
      exact absurd (H.trans (congrArg some HT)) (by decide)
  · rw [if_neg c6] at H
    have c6b0 : (t483 == 0) = false := beq_eq_false_iff_ne.mpr c6
    have c6b1 : (t483 != 0) = true := bne_iff_ne.mpr c6
    exact absurd (H.trans (congrArg some HT)) (by decide)

/-! ### tenorref6_asked: function 73 -/
def tenorref6_asked.f (k : Nat) (a0_0 : Int) (l0_1 : List (S63)) (a1 : Int) : Option (Int) := (tenorref6_Check.f k a0_0 l0_1).bind fun bt493 => (if bt493.1 = 0 then ((tenorref6_isDay.f a1).bind fun t495 => (if t495 = true then (some 0) else (some 51))) else (some bt493.1))
theorem tenorref6_asked.mono : ∀ a0 a1 a2 k, LeO (tenorref6_asked.f k a0 a1 a2) (tenorref6_asked.f (k + 1) a0 a1 a2) := by
  intro a0 a1 a2 k
  unfold tenorref6_asked.f
  repeat' first
      | (with_reducible exact tenorref6_Check.mono _ _ _)
      | (with_reducible exact LeO.refl _)
      | (with_reducible exact LeO.none _)
      | (with_reducible refine LeO.ite ?_ ?_)
      | (with_reducible refine LeO.bind ?_ (fun _ => ?_))
      | exact tenorref6_Check.mono _ _ _
      | exact LeO.none _
      | refine LeO.ite ?_ ?_
      | refine LeO.bind ?_ (fun _ => ?_)
set_option maxHeartbeats 8000000 in
set_option maxRecDepth 100000 in
theorem tenorref6_asked.calls (k : Nat) (a0_0 : Int) (A0_1 : Option Addr) (c0_1 : Nat) (l0_1 : List (S63)) (a1 : Int) (r : Int) (w : World) (hr0_1 : Kd.C k63 w A0_1 l0_1.length l0_1) (hc0_1 : l0_1.length ≤ c0_1) (h : tenorref6_asked.f k a0_0 l0_1 a1 = some r) :
    Calls Try.prog 73 #[.agg #[.int .i64 a0_0, .slice A0_1 l0_1.length c0_1], .int .i64 a1] w fun e w' => e = .returned (.int .i64 r) ∧ Below w.heap.size w w' := by
  have hu24 := Try.underlying24
  have HR0_1 := Aside0.mk hr0_1
  have HC0_1 := Aside0.mk hc0_1
  clear hr0_1 hc0_1
  have HB := Aside0.mk (Below.refl w.heap.size w)
  have H : ((tenorref6_Check.f k a0_0 l0_1).bind fun bt493 => (if bt493.1 = 0 then ((tenorref6_isDay.f a1).bind fun t495 => (if t495 = true then (some 0) else (some 51))) else (some bt493.1))) = some r := h
  clear h
  replace H := Option.bind_eq_some_iff.mp H
  obtain ⟨⟨t493, t494⟩, A30, H⟩ := H
  replace H : (if t493 = 0 then ((tenorref6_isDay.f a1).bind fun t495 => (if t495 = true then (some 0) else (some 51))) else (some t493)) = some r := H
  have A3 := Aside0.mk A30
  clear A30
  by_cases c4 : t493 = 0
  · rw [if_pos c4] at H
    have c4b0 : (t493 == 0) = true := beq_iff_eq.mpr c4
    have c4b1 : (t493 != 0) = false := bne_eq_false_iff_eq.mpr c4
    clear c4
    replace H := Option.bind_eq_some_iff.mp H
    obtain ⟨t495, A50, H⟩ := H
    replace H : (if t495 = true then (some 0) else (some 51)) = some r := H
    have A5 := Aside0.mk A50
    clear A50
    by_cases c6 : t495 = true
    · subst c6
      have H1 : (some 0) = some r := by rw [if_pos rfl] at H; exact H
      clear H
      have H := H1
      clear H1
      obtain rfl := Option.some.inj H
      go_enter Try.func73, Try.ntmps73
      go_wp2_with (first | ((with_reducible refine gate_dst (N := 2) rfl ?_); refine box_event ?hg (N := 2) ?hd (cs := #[.int .i64 a0_0, .slice A0_1 l0_1.length c0_1]) (t := 24) ?hr ?_; (case hd => rfl); (case hg => rfl); (case hr => first | (go_simp; done) | (go_simp; rfl)); intro gb492 hg w7 hbox hb; have n0_ := Aside0.mk (below_step (by repeat (first | (with_reducible first | exact HB.out | apply below_alloc | apply pw_below_drewN | apply below_drew1) | exact HB.out)) hb); have n1_ := Aside0.mk (hbox); have n2_ := Aside0.mk ((by rw [hg]; exact (below_size (by repeat (first | (with_reducible first | exact HB.out | apply below_alloc | apply pw_below_drewN | apply below_drew1) | exact HB.out))) : w.heap.size ≤ gb492)); have n3_ := Aside0.mk ((by rw [hg]; exact (below_size (by repeat (first | (with_reducible first | exact HB.out | apply below_alloc | apply pw_below_drewN | apply below_drew1) | exact HB.out))) : w.heap.size ≤ gb492)); clear HB; have HB := n0_; have BK492 := n1_; have GW492 := n2_; have GE492 := n3_; clear n0_ n1_ n2_ n3_; clear hb hbox hg; have hcz8_0 : w7.cell? ⟨gb492, 0, none⟩ = some (.int .i64 a0_0) := (blk_cell BK492.out 0).trans rfl; have hcz8_1 : w7.cell? ⟨gb492, 1, none⟩ = some (.slice A0_1 l0_1.length c0_1) := (blk_cell BK492.out 1).trans rfl; have hfz8_0 := blk_frozen BK492.out 0; have hfz8_1 := blk_frozen BK492.out 1) | ((with_reducible refine gate_callee (f := 45) rfl ?_); refine goesL_ (some 9) rfl rfl Try.func45 (by kernel_rfl) rfl #[.agg #[.int .i64 a0_0, .slice A0_1 l0_1.length c0_1]] rfl (by (try simp only [List.map_toArray, List.map_cons, List.map_nil]); first | done | rfl | (simp only [List.length_drop, List.length_take]; rfl)) ?_; (with_reducible refine (tenorref6_Check.calls k a0_0 _ _ l0_1 t493 t494 _ ?side1 ?side2 A3.out).mono ?_); (case side1 => repeat (first | exact (Kd.C_below HR0_1.out HB.out) | (with_reducible refine Kd.C_alloc ?_ _) | (with_reducible refine Kd.C_drewN ?_ _) | (with_reducible refine Kd.C_drew ?_))); (case side2 => exact HC0_1.out); rintro e w9 ⟨rfl, hb⟩; refine ⟨_, rfl, ?_⟩; have n0_ := Aside0.mk (blk_below (g := gb492) (o := .cells #[.int .i64 a0_0, .slice A0_1 l0_1.length c0_1] 24 (0, 0)) (by (with_reducible repeat (first | refine blk_drewN ?_ _ | refine blk_drew ?_ | refine blk_alloc ?_ _)); exact BK492.out) hb); have n1_ := Aside0.mk (below_step (by repeat (first | (with_reducible first | exact HB.out | apply below_alloc | apply pw_below_drewN | apply below_drew1 | refine below_set ?_ GE492.out) | exact HB.out)) hb); clear BK492; clear HB; have BK492 := n0_; have HB := n1_; clear n0_ n1_; (try clear hb); (try clear hb2); (try clear hk); (try clear hi)) | ((with_reducible refine gate_callee (f := 80) rfl ?_); refine goesL_ (some 16) rfl rfl Try.func80 (by kernel_rfl) rfl #[.int .i64 a1] rfl (by (try simp only [List.map_toArray, List.map_cons, List.map_nil]); first | done | rfl | (simp only [List.length_drop, List.length_take]; rfl)) ?_; (with_reducible refine (tenorref6_isDay.calls a1 true _ A5.out).mono ?_); rintro e w' ⟨rfl, ⟨nd, rfl⟩⟩; refine ⟨_, rfl, ?_⟩))
      go_ret
      exact ⟨by first | rfl | (simp [errW_none, errW_some] <;> rfl) | (simp [*, errW_none, errW_some] <;> rfl), by repeat (first | (with_reducible first | exact HB.out | apply below_alloc | apply pw_below_drewN | apply below_drew1 | refine below_set ?_ GE492.out) | exact HB.out)⟩
    · replace c6 := Bool.eq_false_iff.mpr c6
      subst c6
      have H1 : (some 51) = some r := by rw [if_neg (show ¬ (false = true) by decide)] at H; exact H
      clear H
      have H := H1
      clear H1
      obtain rfl := Option.some.inj H
      go_enter Try.func73, Try.ntmps73
      go_wp2_with (first | ((with_reducible refine gate_dst (N := 2) rfl ?_); refine box_event ?hg (N := 2) ?hd (cs := #[.int .i64 a0_0, .slice A0_1 l0_1.length c0_1]) (t := 24) ?hr ?_; (case hd => rfl); (case hg => rfl); (case hr => first | (go_simp; done) | (go_simp; rfl)); intro gb492 hg w10 hbox hb; have n0_ := Aside0.mk (below_step (by repeat (first | (with_reducible first | exact HB.out | apply below_alloc | apply pw_below_drewN | apply below_drew1) | exact HB.out)) hb); have n1_ := Aside0.mk (hbox); have n2_ := Aside0.mk ((by rw [hg]; exact (below_size (by repeat (first | (with_reducible first | exact HB.out | apply below_alloc | apply pw_below_drewN | apply below_drew1) | exact HB.out))) : w.heap.size ≤ gb492)); have n3_ := Aside0.mk ((by rw [hg]; exact (below_size (by repeat (first | (with_reducible first | exact HB.out | apply below_alloc | apply pw_below_drewN | apply below_drew1) | exact HB.out))) : w.heap.size ≤ gb492)); clear HB; have HB := n0_; have BK492 := n1_; have GW492 := n2_; have GE492 := n3_; clear n0_ n1_ n2_ n3_; clear hb hbox hg; have hcz11_0 : w10.cell? ⟨gb492, 0, none⟩ = some (.int .i64 a0_0) := (blk_cell BK492.out 0).trans rfl; have hcz11_1 : w10.cell? ⟨gb492, 1, none⟩ = some (.slice A0_1 l0_1.length c0_1) := (blk_cell BK492.out 1).trans rfl; have hfz11_0 := blk_frozen BK492.out 0; have hfz11_1 := blk_frozen BK492.out 1) | ((with_reducible refine gate_callee (f := 45) rfl ?_); refine goesL_ (some 9) rfl rfl Try.func45 (by kernel_rfl) rfl #[.agg #[.int .i64 a0_0, .slice A0_1 l0_1.length c0_1]] rfl (by (try simp only [List.map_toArray, List.map_cons, List.map_nil]); first | done | rfl | (simp only [List.length_drop, List.length_take]; rfl)) ?_; (with_reducible refine (tenorref6_Check.calls k a0_0 _ _ l0_1 t493 t494 _ ?side1 ?side2 A3.out).mono ?_); (case side1 => repeat (first | exact (Kd.C_below HR0_1.out HB.out) | (with_reducible refine Kd.C_alloc ?_ _) | (with_reducible refine Kd.C_drewN ?_ _) | (with_reducible refine Kd.C_drew ?_))); (case side2 => exact HC0_1.out); rintro e w12 ⟨rfl, hb⟩; refine ⟨_, rfl, ?_⟩; have n0_ := Aside0.mk (blk_below (g := gb492) (o := .cells #[.int .i64 a0_0, .slice A0_1 l0_1.length c0_1] 24 (0, 0)) (by (with_reducible repeat (first | refine blk_drewN ?_ _ | refine blk_drew ?_ | refine blk_alloc ?_ _)); exact BK492.out) hb); have n1_ := Aside0.mk (below_step (by repeat (first | (with_reducible first | exact HB.out | apply below_alloc | apply pw_below_drewN | apply below_drew1 | refine below_set ?_ GE492.out) | exact HB.out)) hb); clear BK492; clear HB; have BK492 := n0_; have HB := n1_; clear n0_ n1_; (try clear hb); (try clear hb2); (try clear hk); (try clear hi)) | ((with_reducible refine gate_callee (f := 80) rfl ?_); refine goesL_ (some 16) rfl rfl Try.func80 (by kernel_rfl) rfl #[.int .i64 a1] rfl (by (try simp only [List.map_toArray, List.map_cons, List.map_nil]); first | done | rfl | (simp only [List.length_drop, List.length_take]; rfl)) ?_; (with_reducible refine (tenorref6_isDay.calls a1 false _ A5.out).mono ?_); rintro e w' ⟨rfl, ⟨nd, rfl⟩⟩; refine ⟨_, rfl, ?_⟩))
      go_ret
      exact ⟨by first | rfl | (simp [errW_none, errW_some] <;> rfl) | (simp [*, errW_none, errW_some] <;> rfl), by repeat (first | (with_reducible first | exact HB.out | apply below_alloc | apply pw_below_drewN | apply below_drew1 | refine below_set ?_ GE492.out) | exact HB.out)⟩
  · rw [if_neg c4] at H
    have c4b0 : (t493 == 0) = false := beq_eq_false_iff_ne.mpr c4
    have c4b1 : (t493 != 0) = true := bne_iff_ne.mpr c4
    obtain rfl := Option.some.inj H
    go_enter Try.func73, Try.ntmps73
    go_wp2_with (first | ((with_reducible refine gate_dst (N := 2) rfl ?_); refine box_event ?hg (N := 2) ?hd (cs := #[.int .i64 a0_0, .slice A0_1 l0_1.length c0_1]) (t := 24) ?hr ?_; (case hd => rfl); (case hg => rfl); (case hr => first | (go_simp; done) | (go_simp; rfl)); intro gb492 hg w13 hbox hb; have n0_ := Aside0.mk (below_step (by repeat (first | (with_reducible first | exact HB.out | apply below_alloc | apply pw_below_drewN | apply below_drew1) | exact HB.out)) hb); have n1_ := Aside0.mk (hbox); have n2_ := Aside0.mk ((by rw [hg]; exact (below_size (by repeat (first | (with_reducible first | exact HB.out | apply below_alloc | apply pw_below_drewN | apply below_drew1) | exact HB.out))) : w.heap.size ≤ gb492)); have n3_ := Aside0.mk ((by rw [hg]; exact (below_size (by repeat (first | (with_reducible first | exact HB.out | apply below_alloc | apply pw_below_drewN | apply below_drew1) | exact HB.out))) : w.heap.size ≤ gb492)); clear HB; have HB := n0_; have BK492 := n1_; have GW492 := n2_; have GE492 := n3_; clear n0_ n1_ n2_ n3_; clear hb hbox hg; have hcz14_0 : w13.cell? ⟨gb492, 0, none⟩ = some (.int .i64 a0_0) := (blk_cell BK492.out 0).trans rfl; have hcz14_1 : w13.cell? ⟨gb492, 1, none⟩ = some (.slice A0_1 l0_1.length c0_1) := (blk_cell BK492.out 1).trans rfl; have hfz14_0 := blk_frozen BK492.out 0; have hfz14_1 := blk_frozen BK492.out 1) | ((with_reducible refine gate_callee (f := 45) rfl ?_); refine goesL_ (some 9) rfl rfl Try.func45 (by kernel_rfl) rfl #[.agg #[.int .i64 a0_0, .slice A0_1 l0_1.length c0_1]] rfl (by (try simp only [List.map_toArray, List.map_cons, List.map_nil]); first | done | rfl | (simp only [List.length_drop, List.length_take]; rfl)) ?_; (with_reducible refine (tenorref6_Check.calls k a0_0 _ _ l0_1 t493 t494 _ ?side1 ?side2 A3.out).mono ?_); (case side1 => repeat (first | exact (Kd.C_below HR0_1.out HB.out) | (with_reducible refine Kd.C_alloc ?_ _) | (with_reducible refine Kd.C_drewN ?_ _) | (with_reducible refine Kd.C_drew ?_))); (case side2 => exact HC0_1.out); rintro e w15 ⟨rfl, hb⟩; refine ⟨_, rfl, ?_⟩; have n0_ := Aside0.mk (blk_below (g := gb492) (o := .cells #[.int .i64 a0_0, .slice A0_1 l0_1.length c0_1] 24 (0, 0)) (by (with_reducible repeat (first | refine blk_drewN ?_ _ | refine blk_drew ?_ | refine blk_alloc ?_ _)); exact BK492.out) hb); have n1_ := Aside0.mk (below_step (by repeat (first | (with_reducible first | exact HB.out | apply below_alloc | apply pw_below_drewN | apply below_drew1 | refine below_set ?_ GE492.out) | exact HB.out)) hb); clear BK492; clear HB; have BK492 := n0_; have HB := n1_; clear n0_ n1_; (try clear hb); (try clear hb2); (try clear hk); (try clear hi)))
    go_ret
    exact ⟨by first | rfl | (simp [errW_none, errW_some] <;> rfl) | (simp [*, errW_none, errW_some] <;> rfl), by repeat (first | (with_reducible first | exact HB.out | apply below_alloc | apply pw_below_drewN | apply below_drew1 | refine below_set ?_ GE492.out) | exact HB.out)⟩

/-! ### tenorref6_Open: function 34 -/
def tenorref6_Open.f (k : Nat) (a0_0 : Int) (l0_1 : List (S63)) (a1 : Int) : Option (Bool × Int) := (tenorref6_asked.f k a0_0 l0_1 a1).bind fun t497 => (if t497 = 0 then ((tenorref6_open.f k a0_0 l0_1 a1).bind fun t498 => (some (t498, 0))) else (some (false, t497)))
theorem tenorref6_Open.mono : ∀ a0 a1 a2 k, LeO (tenorref6_Open.f k a0 a1 a2) (tenorref6_Open.f (k + 1) a0 a1 a2) := by
  intro a0 a1 a2 k
  unfold tenorref6_Open.f
  repeat' first
      | (with_reducible exact tenorref6_asked.mono _ _ _ _)
      | (with_reducible exact tenorref6_open.mono _ _ _ _)
      | (with_reducible exact LeO.refl _)
      | (with_reducible exact LeO.none _)
      | (with_reducible refine LeO.ite ?_ ?_)
      | (with_reducible refine LeO.bind ?_ (fun _ => ?_))
      | exact tenorref6_asked.mono _ _ _ _
      | exact tenorref6_open.mono _ _ _ _
      | exact LeO.none _
      | refine LeO.ite ?_ ?_
      | refine LeO.bind ?_ (fun _ => ?_)
set_option maxHeartbeats 8000000 in
set_option maxRecDepth 100000 in
theorem tenorref6_Open.calls (k : Nat) (a0_0 : Int) (A0_1 : Option Addr) (c0_1 : Nat) (l0_1 : List (S63)) (a1 : Int) (r1 : Bool) (r2 : Int) (w : World) (hr0_1 : Kd.C k63 w A0_1 l0_1.length l0_1) (hc0_1 : l0_1.length ≤ c0_1) (h : tenorref6_Open.f k a0_0 l0_1 a1 = some (r1, r2)) :
    Calls Try.prog 34 #[.agg #[.int .i64 a0_0, .slice A0_1 l0_1.length c0_1], .int .i64 a1] w fun e w' => e = .returned (.tuple #[.bool r1, .int .i64 r2]) ∧ Below w.heap.size w w' := by
  have hu24 := Try.underlying24
  have HR0_1 := Aside0.mk hr0_1
  have HC0_1 := Aside0.mk hc0_1
  clear hr0_1 hc0_1
  have HB := Aside0.mk (Below.refl w.heap.size w)
  have H : ((tenorref6_asked.f k a0_0 l0_1 a1).bind fun t497 => (if t497 = 0 then ((tenorref6_open.f k a0_0 l0_1 a1).bind fun t498 => (some (t498, 0))) else (some (false, t497)))) = some (r1, r2) := h
  clear h
  replace H := Option.bind_eq_some_iff.mp H
  obtain ⟨t497, A30, H⟩ := H
  replace H : (if t497 = 0 then ((tenorref6_open.f k a0_0 l0_1 a1).bind fun t498 => (some (t498, 0))) else (some (false, t497))) = some (r1, r2) := H
  have A3 := Aside0.mk A30
  clear A30
  by_cases c4 : t497 = 0
  · rw [if_pos c4] at H
    have c4b0 : (t497 == 0) = true := beq_iff_eq.mpr c4
    have c4b1 : (t497 != 0) = false := bne_eq_false_iff_eq.mpr c4
    clear c4
    replace H := Option.bind_eq_some_iff.mp H
    obtain ⟨t498, A50, H⟩ := H
    replace H : (some (t498, 0)) = some (r1, r2) := H
    have A5 := Aside0.mk A50
    clear A50
    simp only [Option.some.injEq, Prod.mk.injEq] at H
    obtain ⟨rfl, rfl⟩ := H
    go_enter Try.func34, Try.ntmps34
    go_wp2_with (first | ((with_reducible refine gate_dst (N := 2) rfl ?_); refine box_event ?hg (N := 2) ?hd (cs := #[.int .i64 a0_0, .slice A0_1 l0_1.length c0_1]) (t := 24) ?hr ?_; (case hd => rfl); (case hg => rfl); (case hr => first | (go_simp; done) | (go_simp; rfl)); intro gb496 hg w6 hbox hb; have n0_ := Aside0.mk (below_step (by repeat (first | (with_reducible first | exact HB.out | apply below_alloc | apply pw_below_drewN | apply below_drew1) | exact HB.out)) hb); have n1_ := Aside0.mk (hbox); have n2_ := Aside0.mk ((by rw [hg]; exact (below_size (by repeat (first | (with_reducible first | exact HB.out | apply below_alloc | apply pw_below_drewN | apply below_drew1) | exact HB.out))) : w.heap.size ≤ gb496)); have n3_ := Aside0.mk ((by rw [hg]; exact (below_size (by repeat (first | (with_reducible first | exact HB.out | apply below_alloc | apply pw_below_drewN | apply below_drew1) | exact HB.out))) : w.heap.size ≤ gb496)); clear HB; have HB := n0_; have BK496 := n1_; have GW496 := n2_; have GE496 := n3_; clear n0_ n1_ n2_ n3_; clear hb hbox hg; have hcz7_0 : w6.cell? ⟨gb496, 0, none⟩ = some (.int .i64 a0_0) := (blk_cell BK496.out 0).trans rfl; have hcz7_1 : w6.cell? ⟨gb496, 1, none⟩ = some (.slice A0_1 l0_1.length c0_1) := (blk_cell BK496.out 1).trans rfl; have hfz7_0 := blk_frozen BK496.out 0; have hfz7_1 := blk_frozen BK496.out 1) | ((with_reducible refine gate_callee (f := 73) rfl ?_); refine goesL_ (some 9) rfl rfl Try.func73 (by kernel_rfl) rfl #[.agg #[.int .i64 a0_0, .slice A0_1 l0_1.length c0_1], .int .i64 a1] rfl (by (try simp only [List.map_toArray, List.map_cons, List.map_nil]); first | done | rfl | (simp only [List.length_drop, List.length_take]; rfl)) ?_; (with_reducible refine (tenorref6_asked.calls k a0_0 _ _ l0_1 a1 t497 _ ?side1 ?side2 A3.out).mono ?_); (case side1 => repeat (first | exact (Kd.C_below HR0_1.out HB.out) | (with_reducible refine Kd.C_alloc ?_ _) | (with_reducible refine Kd.C_drewN ?_ _) | (with_reducible refine Kd.C_drew ?_))); (case side2 => exact HC0_1.out); rintro e w8 ⟨rfl, hb⟩; refine ⟨_, rfl, ?_⟩; have n0_ := Aside0.mk (blk_below (g := gb496) (o := .cells #[.int .i64 a0_0, .slice A0_1 l0_1.length c0_1] 24 (0, 0)) (by (with_reducible repeat (first | refine blk_drewN ?_ _ | refine blk_drew ?_ | refine blk_alloc ?_ _)); exact BK496.out) hb); have n1_ := Aside0.mk (below_step (by repeat (first | (with_reducible first | exact HB.out | apply below_alloc | apply pw_below_drewN | apply below_drew1 | refine below_set ?_ GE496.out) | exact HB.out)) hb); clear BK496; clear HB; have BK496 := n0_; have HB := n1_; clear n0_ n1_; (try clear hb); (try clear hb2); (try clear hk); (try clear hi); have hcz9_0 : w8.cell? ⟨gb496, 0, none⟩ = some (.int .i64 a0_0) := (blk_cell BK496.out 0).trans rfl; have hcz9_1 : w8.cell? ⟨gb496, 1, none⟩ = some (.slice A0_1 l0_1.length c0_1) := (blk_cell BK496.out 1).trans rfl; have hfz9_0 := blk_frozen BK496.out 0; have hfz9_1 := blk_frozen BK496.out 1) | ((with_reducible refine gate_callee (f := 74) rfl ?_); refine goesL_ (some 15) rfl rfl Try.func74 (by kernel_rfl) rfl #[.agg #[.int .i64 a0_0, .slice A0_1 l0_1.length c0_1], .int .i64 a1] rfl (by (try simp only [List.map_toArray, List.map_cons, List.map_nil]); first | done | rfl | (simp only [List.length_drop, List.length_take]; rfl)) ?_; (with_reducible refine (tenorref6_open.calls k a0_0 _ _ l0_1 a1 t498 _ ?side1 ?side2 A5.out).mono ?_); (case side1 => repeat (first | exact (Kd.C_below HR0_1.out HB.out) | (with_reducible refine Kd.C_alloc ?_ _) | (with_reducible refine Kd.C_drewN ?_ _) | (with_reducible refine Kd.C_drew ?_))); (case side2 => exact HC0_1.out); rintro e w10 ⟨rfl, hb⟩; refine ⟨_, rfl, ?_⟩; have n0_ := Aside0.mk (blk_below (g := gb496) (o := .cells #[.int .i64 a0_0, .slice A0_1 l0_1.length c0_1] 24 (0, 0)) (by (with_reducible repeat (first | refine blk_drewN ?_ _ | refine blk_drew ?_ | refine blk_alloc ?_ _)); exact BK496.out) hb); have n1_ := Aside0.mk (below_step (by repeat (first | (with_reducible first | exact HB.out | apply below_alloc | apply pw_below_drewN | apply below_drew1 | refine below_set ?_ GE496.out) | exact HB.out)) hb); clear BK496; clear HB; have BK496 := n0_; have HB := n1_; clear n0_ n1_; (try clear hb); (try clear hb2); (try clear hk); (try clear hi)))
    go_ret2
    exact ⟨by first | rfl | (simp [errW_none, errW_some] <;> rfl) | (simp [*, errW_none, errW_some] <;> rfl), by repeat (first | (with_reducible first | exact HB.out | apply below_alloc | apply pw_below_drewN | apply below_drew1 | refine below_set ?_ GE496.out) | exact HB.out)⟩
  · rw [if_neg c4] at H
    have c4b0 : (t497 == 0) = false := beq_eq_false_iff_ne.mpr c4
    have c4b1 : (t497 != 0) = true := bne_iff_ne.mpr c4
    simp only [Option.some.injEq, Prod.mk.injEq] at H
    obtain ⟨rfl, rfl⟩ := H
    go_enter Try.func34, Try.ntmps34
    go_wp2_with (first | ((with_reducible refine gate_dst (N := 2) rfl ?_); refine box_event ?hg (N := 2) ?hd (cs := #[.int .i64 a0_0, .slice A0_1 l0_1.length c0_1]) (t := 24) ?hr ?_; (case hd => rfl); (case hg => rfl); (case hr => first | (go_simp; done) | (go_simp; rfl)); intro gb496 hg w11 hbox hb; have n0_ := Aside0.mk (below_step (by repeat (first | (with_reducible first | exact HB.out | apply below_alloc | apply pw_below_drewN | apply below_drew1) | exact HB.out)) hb); have n1_ := Aside0.mk (hbox); have n2_ := Aside0.mk ((by rw [hg]; exact (below_size (by repeat (first | (with_reducible first | exact HB.out | apply below_alloc | apply pw_below_drewN | apply below_drew1) | exact HB.out))) : w.heap.size ≤ gb496)); have n3_ := Aside0.mk ((by rw [hg]; exact (below_size (by repeat (first | (with_reducible first | exact HB.out | apply below_alloc | apply pw_below_drewN | apply below_drew1) | exact HB.out))) : w.heap.size ≤ gb496)); clear HB; have HB := n0_; have BK496 := n1_; have GW496 := n2_; have GE496 := n3_; clear n0_ n1_ n2_ n3_; clear hb hbox hg; have hcz12_0 : w11.cell? ⟨gb496, 0, none⟩ = some (.int .i64 a0_0) := (blk_cell BK496.out 0).trans rfl; have hcz12_1 : w11.cell? ⟨gb496, 1, none⟩ = some (.slice A0_1 l0_1.length c0_1) := (blk_cell BK496.out 1).trans rfl; have hfz12_0 := blk_frozen BK496.out 0; have hfz12_1 := blk_frozen BK496.out 1) | ((with_reducible refine gate_callee (f := 73) rfl ?_); refine goesL_ (some 9) rfl rfl Try.func73 (by kernel_rfl) rfl #[.agg #[.int .i64 a0_0, .slice A0_1 l0_1.length c0_1], .int .i64 a1] rfl (by (try simp only [List.map_toArray, List.map_cons, List.map_nil]); first | done | rfl | (simp only [List.length_drop, List.length_take]; rfl)) ?_; (with_reducible refine (tenorref6_asked.calls k a0_0 _ _ l0_1 a1 t497 _ ?side1 ?side2 A3.out).mono ?_); (case side1 => repeat (first | exact (Kd.C_below HR0_1.out HB.out) | (with_reducible refine Kd.C_alloc ?_ _) | (with_reducible refine Kd.C_drewN ?_ _) | (with_reducible refine Kd.C_drew ?_))); (case side2 => exact HC0_1.out); rintro e w13 ⟨rfl, hb⟩; refine ⟨_, rfl, ?_⟩; have n0_ := Aside0.mk (blk_below (g := gb496) (o := .cells #[.int .i64 a0_0, .slice A0_1 l0_1.length c0_1] 24 (0, 0)) (by (with_reducible repeat (first | refine blk_drewN ?_ _ | refine blk_drew ?_ | refine blk_alloc ?_ _)); exact BK496.out) hb); have n1_ := Aside0.mk (below_step (by repeat (first | (with_reducible first | exact HB.out | apply below_alloc | apply pw_below_drewN | apply below_drew1 | refine below_set ?_ GE496.out) | exact HB.out)) hb); clear BK496; clear HB; have BK496 := n0_; have HB := n1_; clear n0_ n1_; (try clear hb); (try clear hb2); (try clear hk); (try clear hi)))
    go_ret2
    exact ⟨by first | rfl | (simp [errW_none, errW_some] <;> rfl) | (simp [*, errW_none, errW_some] <;> rfl), by repeat (first | (with_reducible first | exact HB.out | apply below_alloc | apply pw_below_drewN | apply below_drew1 | refine below_set ?_ GE496.out) | exact HB.out)⟩

/-! ### tenorref6_Holiday: function 36 -/
def tenorref6_Holiday.f (k : Nat) (a0_0 : Int) (l0_1 : List (S63)) (a1 : Int) : Option (Bool × Int) := (tenorref6_asked.f k a0_0 l0_1 a1).bind fun t500 => (if t500 = 0 then ((tenorref6_holiday.f k a0_0 l0_1 a1).bind fun t501 => (some (t501, 0))) else (some (false, t500)))
theorem tenorref6_Holiday.mono : ∀ a0 a1 a2 k, LeO (tenorref6_Holiday.f k a0 a1 a2) (tenorref6_Holiday.f (k + 1) a0 a1 a2) := by
  intro a0 a1 a2 k
  unfold tenorref6_Holiday.f
  repeat' first
      | (with_reducible exact tenorref6_asked.mono _ _ _ _)
      | (with_reducible exact tenorref6_holiday.mono _ _ _ _)
      | (with_reducible exact LeO.refl _)
      | (with_reducible exact LeO.none _)
      | (with_reducible refine LeO.ite ?_ ?_)
      | (with_reducible refine LeO.bind ?_ (fun _ => ?_))
      | exact tenorref6_asked.mono _ _ _ _
      | exact tenorref6_holiday.mono _ _ _ _
      | exact LeO.none _
      | refine LeO.ite ?_ ?_
      | refine LeO.bind ?_ (fun _ => ?_)
set_option maxHeartbeats 8000000 in
set_option maxRecDepth 100000 in
theorem tenorref6_Holiday.calls (k : Nat) (a0_0 : Int) (A0_1 : Option Addr) (c0_1 : Nat) (l0_1 : List (S63)) (a1 : Int) (r1 : Bool) (r2 : Int) (w : World) (hr0_1 : Kd.C k63 w A0_1 l0_1.length l0_1) (hc0_1 : l0_1.length ≤ c0_1) (h : tenorref6_Holiday.f k a0_0 l0_1 a1 = some (r1, r2)) :
    Calls Try.prog 36 #[.agg #[.int .i64 a0_0, .slice A0_1 l0_1.length c0_1], .int .i64 a1] w fun e w' => e = .returned (.tuple #[.bool r1, .int .i64 r2]) ∧ Below w.heap.size w w' := by
  have hu24 := Try.underlying24
  have HR0_1 := Aside0.mk hr0_1
  have HC0_1 := Aside0.mk hc0_1
  clear hr0_1 hc0_1
  have HB := Aside0.mk (Below.refl w.heap.size w)
  have H : ((tenorref6_asked.f k a0_0 l0_1 a1).bind fun t500 => (if t500 = 0 then ((tenorref6_holiday.f k a0_0 l0_1 a1).bind fun t501 => (some (t501, 0))) else (some (false, t500)))) = some (r1, r2) := h
  clear h
  replace H := Option.bind_eq_some_iff.mp H
  obtain ⟨t500, A30, H⟩ := H
  replace H : (if t500 = 0 then ((tenorref6_holiday.f k a0_0 l0_1 a1).bind fun t501 => (some (t501, 0))) else (some (false, t500))) = some (r1, r2) := H
  have A3 := Aside0.mk A30
  clear A30
  by_cases c4 : t500 = 0
  · rw [if_pos c4] at H
    have c4b0 : (t500 == 0) = true := beq_iff_eq.mpr c4
    have c4b1 : (t500 != 0) = false := bne_eq_false_iff_eq.mpr c4
    clear c4
    replace H := Option.bind_eq_some_iff.mp H
    obtain ⟨t501, A50, H⟩ := H
    replace H : (some (t501, 0)) = some (r1, r2) := H
    have A5 := Aside0.mk A50
    clear A50
    simp only [Option.some.injEq, Prod.mk.injEq] at H
    obtain ⟨rfl, rfl⟩ := H
    go_enter Try.func36, Try.ntmps36
    go_wp2_with (first | ((with_reducible refine gate_dst (N := 2) rfl ?_); refine box_event ?hg (N := 2) ?hd (cs := #[.int .i64 a0_0, .slice A0_1 l0_1.length c0_1]) (t := 24) ?hr ?_; (case hd => rfl); (case hg => rfl); (case hr => first | (go_simp; done) | (go_simp; rfl)); intro gb499 hg w6 hbox hb; have n0_ := Aside0.mk (below_step (by repeat (first | (with_reducible first | exact HB.out | apply below_alloc | apply pw_below_drewN | apply below_drew1) | exact HB.out)) hb); have n1_ := Aside0.mk (hbox); have n2_ := Aside0.mk ((by rw [hg]; exact (below_size (by repeat (first | (with_reducible first | exact HB.out | apply below_alloc | apply pw_below_drewN | apply below_drew1) | exact HB.out))) : w.heap.size ≤ gb499)); have n3_ := Aside0.mk ((by rw [hg]; exact (below_size (by repeat (first | (with_reducible first | exact HB.out | apply below_alloc | apply pw_below_drewN | apply below_drew1) | exact HB.out))) : w.heap.size ≤ gb499)); clear HB; have HB := n0_; have BK499 := n1_; have GW499 := n2_; have GE499 := n3_; clear n0_ n1_ n2_ n3_; clear hb hbox hg; have hcz7_0 : w6.cell? ⟨gb499, 0, none⟩ = some (.int .i64 a0_0) := (blk_cell BK499.out 0).trans rfl; have hcz7_1 : w6.cell? ⟨gb499, 1, none⟩ = some (.slice A0_1 l0_1.length c0_1) := (blk_cell BK499.out 1).trans rfl; have hfz7_0 := blk_frozen BK499.out 0; have hfz7_1 := blk_frozen BK499.out 1) | ((with_reducible refine gate_callee (f := 73) rfl ?_); refine goesL_ (some 9) rfl rfl Try.func73 (by kernel_rfl) rfl #[.agg #[.int .i64 a0_0, .slice A0_1 l0_1.length c0_1], .int .i64 a1] rfl (by (try simp only [List.map_toArray, List.map_cons, List.map_nil]); first | done | rfl | (simp only [List.length_drop, List.length_take]; rfl)) ?_; (with_reducible refine (tenorref6_asked.calls k a0_0 _ _ l0_1 a1 t500 _ ?side1 ?side2 A3.out).mono ?_); (case side1 => repeat (first | exact (Kd.C_below HR0_1.out HB.out) | (with_reducible refine Kd.C_alloc ?_ _) | (with_reducible refine Kd.C_drewN ?_ _) | (with_reducible refine Kd.C_drew ?_))); (case side2 => exact HC0_1.out); rintro e w8 ⟨rfl, hb⟩; refine ⟨_, rfl, ?_⟩; have n0_ := Aside0.mk (blk_below (g := gb499) (o := .cells #[.int .i64 a0_0, .slice A0_1 l0_1.length c0_1] 24 (0, 0)) (by (with_reducible repeat (first | refine blk_drewN ?_ _ | refine blk_drew ?_ | refine blk_alloc ?_ _)); exact BK499.out) hb); have n1_ := Aside0.mk (below_step (by repeat (first | (with_reducible first | exact HB.out | apply below_alloc | apply pw_below_drewN | apply below_drew1 | refine below_set ?_ GE499.out) | exact HB.out)) hb); clear BK499; clear HB; have BK499 := n0_; have HB := n1_; clear n0_ n1_; (try clear hb); (try clear hb2); (try clear hk); (try clear hi); have hcz9_0 : w8.cell? ⟨gb499, 0, none⟩ = some (.int .i64 a0_0) := (blk_cell BK499.out 0).trans rfl; have hcz9_1 : w8.cell? ⟨gb499, 1, none⟩ = some (.slice A0_1 l0_1.length c0_1) := (blk_cell BK499.out 1).trans rfl; have hfz9_0 := blk_frozen BK499.out 0; have hfz9_1 := blk_frozen BK499.out 1) | ((with_reducible refine gate_callee (f := 76) rfl ?_); refine goesL_ (some 15) rfl rfl Try.func76 (by kernel_rfl) rfl #[.agg #[.int .i64 a0_0, .slice A0_1 l0_1.length c0_1], .int .i64 a1] rfl (by (try simp only [List.map_toArray, List.map_cons, List.map_nil]); first | done | rfl | (simp only [List.length_drop, List.length_take]; rfl)) ?_; (with_reducible refine (tenorref6_holiday.calls k a0_0 _ _ l0_1 a1 t501 _ ?side1 ?side2 A5.out).mono ?_); (case side1 => repeat (first | exact (Kd.C_below HR0_1.out HB.out) | (with_reducible refine Kd.C_alloc ?_ _) | (with_reducible refine Kd.C_drewN ?_ _) | (with_reducible refine Kd.C_drew ?_))); (case side2 => exact HC0_1.out); rintro e w10 ⟨rfl, hb⟩; refine ⟨_, rfl, ?_⟩; have n0_ := Aside0.mk (blk_below (g := gb499) (o := .cells #[.int .i64 a0_0, .slice A0_1 l0_1.length c0_1] 24 (0, 0)) (by (with_reducible repeat (first | refine blk_drewN ?_ _ | refine blk_drew ?_ | refine blk_alloc ?_ _)); exact BK499.out) hb); have n1_ := Aside0.mk (below_step (by repeat (first | (with_reducible first | exact HB.out | apply below_alloc | apply pw_below_drewN | apply below_drew1 | refine below_set ?_ GE499.out) | exact HB.out)) hb); clear BK499; clear HB; have BK499 := n0_; have HB := n1_; clear n0_ n1_; (try clear hb); (try clear hb2); (try clear hk); (try clear hi)))
    go_ret2
    exact ⟨by first | rfl | (simp [errW_none, errW_some] <;> rfl) | (simp [*, errW_none, errW_some] <;> rfl), by repeat (first | (with_reducible first | exact HB.out | apply below_alloc | apply pw_below_drewN | apply below_drew1 | refine below_set ?_ GE499.out) | exact HB.out)⟩
  · rw [if_neg c4] at H
    have c4b0 : (t500 == 0) = false := beq_eq_false_iff_ne.mpr c4
    have c4b1 : (t500 != 0) = true := bne_iff_ne.mpr c4
    simp only [Option.some.injEq, Prod.mk.injEq] at H
    obtain ⟨rfl, rfl⟩ := H
    go_enter Try.func36, Try.ntmps36
    go_wp2_with (first | ((with_reducible refine gate_dst (N := 2) rfl ?_); refine box_event ?hg (N := 2) ?hd (cs := #[.int .i64 a0_0, .slice A0_1 l0_1.length c0_1]) (t := 24) ?hr ?_; (case hd => rfl); (case hg => rfl); (case hr => first | (go_simp; done) | (go_simp; rfl)); intro gb499 hg w11 hbox hb; have n0_ := Aside0.mk (below_step (by repeat (first | (with_reducible first | exact HB.out | apply below_alloc | apply pw_below_drewN | apply below_drew1) | exact HB.out)) hb); have n1_ := Aside0.mk (hbox); have n2_ := Aside0.mk ((by rw [hg]; exact (below_size (by repeat (first | (with_reducible first | exact HB.out | apply below_alloc | apply pw_below_drewN | apply below_drew1) | exact HB.out))) : w.heap.size ≤ gb499)); have n3_ := Aside0.mk ((by rw [hg]; exact (below_size (by repeat (first | (with_reducible first | exact HB.out | apply below_alloc | apply pw_below_drewN | apply below_drew1) | exact HB.out))) : w.heap.size ≤ gb499)); clear HB; have HB := n0_; have BK499 := n1_; have GW499 := n2_; have GE499 := n3_; clear n0_ n1_ n2_ n3_; clear hb hbox hg; have hcz12_0 : w11.cell? ⟨gb499, 0, none⟩ = some (.int .i64 a0_0) := (blk_cell BK499.out 0).trans rfl; have hcz12_1 : w11.cell? ⟨gb499, 1, none⟩ = some (.slice A0_1 l0_1.length c0_1) := (blk_cell BK499.out 1).trans rfl; have hfz12_0 := blk_frozen BK499.out 0; have hfz12_1 := blk_frozen BK499.out 1) | ((with_reducible refine gate_callee (f := 73) rfl ?_); refine goesL_ (some 9) rfl rfl Try.func73 (by kernel_rfl) rfl #[.agg #[.int .i64 a0_0, .slice A0_1 l0_1.length c0_1], .int .i64 a1] rfl (by (try simp only [List.map_toArray, List.map_cons, List.map_nil]); first | done | rfl | (simp only [List.length_drop, List.length_take]; rfl)) ?_; (with_reducible refine (tenorref6_asked.calls k a0_0 _ _ l0_1 a1 t500 _ ?side1 ?side2 A3.out).mono ?_); (case side1 => repeat (first | exact (Kd.C_below HR0_1.out HB.out) | (with_reducible refine Kd.C_alloc ?_ _) | (with_reducible refine Kd.C_drewN ?_ _) | (with_reducible refine Kd.C_drew ?_))); (case side2 => exact HC0_1.out); rintro e w13 ⟨rfl, hb⟩; refine ⟨_, rfl, ?_⟩; have n0_ := Aside0.mk (blk_below (g := gb499) (o := .cells #[.int .i64 a0_0, .slice A0_1 l0_1.length c0_1] 24 (0, 0)) (by (with_reducible repeat (first | refine blk_drewN ?_ _ | refine blk_drew ?_ | refine blk_alloc ?_ _)); exact BK499.out) hb); have n1_ := Aside0.mk (below_step (by repeat (first | (with_reducible first | exact HB.out | apply below_alloc | apply pw_below_drewN | apply below_drew1 | refine below_set ?_ GE499.out) | exact HB.out)) hb); clear BK499; clear HB; have BK499 := n0_; have HB := n1_; clear n0_ n1_; (try clear hb); (try clear hb2); (try clear hk); (try clear hi)))
    go_ret2
    exact ⟨by first | rfl | (simp [errW_none, errW_some] <;> rfl) | (simp [*, errW_none, errW_some] <;> rfl), by repeat (first | (with_reducible first | exact HB.out | apply below_alloc | apply pw_below_drewN | apply below_drew1 | refine below_set ?_ GE499.out) | exact HB.out)⟩

end Go.Proofs.Ytoncignjcgjhhaa.Q
