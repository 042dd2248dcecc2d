/- Contracts and facts of functions of the program (calendar, dates and their documents), joined in one text by a program of this session. No condition but what each theorem states. -/
import Derived.Test.YtoncignjcgjhhaaLGA
set_option linter.unusedVariables false
set_option linter.unusedSimpArgs false
namespace Go.Proofs.Ytoncignjcgjhhaa.Q
open Go.RowKit Go.Proofs.YtoncignjcgjhhaaW.PrintWords Go.Proofs.YtoncignjcgjhhaaW.PrintLast Go.Proofs.YtoncignjcgjhhaaW.PrintMore
attribute [local go_sem] max2_int min2_int max_two min_two max_three min_three max_four min_four   -- for this text's walks alone
def date_Of.f (k : Nat) (a0 a1 a2 : Int) : Option (Int × Int) := (date_month.f a0 a1).bind fun t116 => (if t116 = true then (if a2 < 1 then (some (0, 50)) else ((date_length.f a0 a1).bind fun t117 => (if a2 > t117 then (some (0, 50)) else ((date_day.f k a0 a1 a2).bind fun t118 => (some (t118, 0)))))) else (some (0, 50)))
theorem date_Of.mono : ∀ a0 a1 a2 k, LeO (date_Of.f k a0 a1 a2) (date_Of.f (k + 1) a0 a1 a2) := by
 intro a0 a1 a2 k
 unfold date_Of.f
 have m0 := @date_day.mono
 exact mL
set_option maxHeartbeats 8000000 in
set_option maxRecDepth 100000 in
theorem date_Of.calls (k : Nat) (a0 a1 a2 r1 r2 : Int) (w : World) (h : date_Of.f k a0 a1 a2 = some (r1, r2)) :
  Calls Try.prog 95 #[.int .i64 a0, .int .i64 a1, .int .i64 a2] w fun e w' => e = .returned (.tuple #[.int .i64 r1, .int .i64 r2]) ∧ Drawn0 w w' := by
 have H : ((date_month.f a0 a1).bind fun t116 => (if t116 = true then (if a2 < 1 then (some (0, 50)) else ((date_length.f a0 a1).bind fun t117 => (if a2 > t117 then (some (0, 50)) else ((date_day.f k a0 a1 a2).bind fun t118 => (some (t118, 0)))))) else (some (0, 50)))) = some (r1, r2) := h
 clear h;replace H := Option.bind_eq_some_iff.mp H
 obtain ⟨t116, A40, H⟩ := H
 replace H : (if t116 = true then (if a2 < 1 then (some (0, 50)) else ((date_length.f a0 a1).bind fun t117 => (if a2 > t117 then (some (0, 50)) else ((date_day.f k a0 a1 a2).bind fun t118 => (some (t118, 0)))))) else (some (0, 50))) = some (r1, r2) := H
 have A4 := Aside0.mk A40;clear A40
 by_cases c5 : t116 = true
 ·
  subst c5
  have H1 : (if a2 < 1 then (some (0, 50)) else ((date_length.f a0 a1).bind fun t117 => (if a2 > t117 then (some (0, 50)) else ((date_day.f k a0 a1 a2).bind fun t118 => (some (t118, 0)))))) = some (r1, r2) := by rw [if_pos rfl] at H; exact H
  clear H;have H := H1;clear H1
  by_cases c6 : a2 < 1
  ·
   rw [if_pos c6] at H
   have c6b0 : decide (a2 < 1) = true := decide_eq_true c6
   clear c6
   simp only [Option.some.injEq, Prod.mk.injEq] at H
   obtain ⟨rfl, rfl⟩ := H
   go_enter Try.func95, Try.ntmps95
   go_wp2_with (first | ((with_reducible refine gG 121 ?_); refine goA (some 10) Try.func121 #[.int .i64 a0, .int .i64 a1] ?_; (with_reducible refine (date_month.calls a0 a1 true _ A4.out).mono ?_); rintro e w' ⟨rfl, ⟨nd, rfl⟩⟩; refine ⟨_, rfl, ?_⟩))
   go_ret2
   exact ⟨eS, eD⟩
  ·
   rw [if_neg c6] at H
   have c6b0 : decide (a2 < 1) = false := decide_eq_false c6
   clear c6;replace H := Option.bind_eq_some_iff.mp H
   obtain ⟨t117, A70, H⟩ := H
   replace H : (if a2 > t117 then (some (0, 50)) else ((date_day.f k a0 a1 a2).bind fun t118 => (some (t118, 0)))) = some (r1, r2) := H
   have A7 := Aside0.mk A70;clear A70
   by_cases c8 : a2 > t117
   ·
    rw [if_pos c8] at H
    have c8b0 : decide (t117 < a2) = true := decide_eq_true c8
    clear c8
    simp only [Option.some.injEq, Prod.mk.injEq] at H
    obtain ⟨rfl, rfl⟩ := H
    go_enter Try.func95, Try.ntmps95
    go_wp2_with (first | ((with_reducible refine gG 121 ?_); refine goA (some 10) Try.func121 #[.int .i64 a0, .int .i64 a1] ?_; (with_reducible refine (date_month.calls a0 a1 true _ A4.out).mono ?_); rintro e w' ⟨rfl, ⟨nd, rfl⟩⟩; refine ⟨_, rfl, ?_⟩) | (go_at_call 122; (with_reducible refine (date_length.calls a0 a1 t117 _ A7.out).mono ?_); rintro e w' ⟨rfl, ⟨nd, rfl⟩⟩))
    go_ret2
    exact ⟨eS, eD⟩
   ·
    rw [if_neg c8] at H
    have c8b0 : decide (t117 < a2) = false := decide_eq_false c8
    clear c8;replace H := Option.bind_eq_some_iff.mp H
    obtain ⟨t118, A90, H⟩ := H
    replace H : (some (t118, 0)) = some (r1, r2) := H
    have A9 := Aside0.mk A90;clear A90
    simp only [Option.some.injEq, Prod.mk.injEq] at H
    obtain ⟨rfl, rfl⟩ := H
    go_enter Try.func95, Try.ntmps95
    go_wp2_with (first | ((with_reducible refine gG 121 ?_); refine goA (some 10) Try.func121 #[.int .i64 a0, .int .i64 a1] ?_; (with_reducible refine (date_month.calls a0 a1 true _ A4.out).mono ?_); rintro e w' ⟨rfl, ⟨nd, rfl⟩⟩; refine ⟨_, rfl, ?_⟩) | (go_at_call 122; (with_reducible refine (date_length.calls a0 a1 t117 _ A7.out).mono ?_); rintro e w' ⟨rfl, ⟨nd, rfl⟩⟩) | ((with_reducible refine gG 123 ?_); refine goA (some 26) Try.func123 #[.int .i64 a0, .int .i64 a1, .int .i64 a2] ?_; (with_reducible refine (date_day.calls k a0 a1 a2 t118 _ A9.out).mono ?_); rintro e w' ⟨rfl, ⟨nd, rfl⟩⟩; refine ⟨_, rfl, ?_⟩))
    go_ret2
    exact ⟨eS, eD⟩
 ·
  replace c5 := Bool.eq_false_iff.mpr c5;subst c5
  have H1 : (some (0, 50)) = some (r1, r2) := by rw [if_neg (show ¬ (false = true) by decide)] at H; exact H
  clear H;have H := H1;clear H1
  simp only [Option.some.injEq, Prod.mk.injEq] at H
  obtain ⟨rfl, rfl⟩ := H
  go_enter Try.func95, Try.ntmps95
  go_wp2_with (first | ((with_reducible refine gG 121 ?_); refine goA (some 10) Try.func121 #[.int .i64 a0, .int .i64 a1] ?_; (with_reducible refine (date_month.calls a0 a1 false _ A4.out).mono ?_); rintro e w' ⟨rfl, ⟨nd, rfl⟩⟩; refine ⟨_, rfl, ?_⟩))
  go_ret2
  exact ⟨eS, eD⟩
def cal_fixed_day.f (k : Nat) (a0_0 a0_1 a0_2 a0_3 a0_4 a0_5 a0_6 a0_7 a0_8 a1 : Int) : Option (Int × Bool) := (date_Of.f k a1 a0_1 a0_2).bind fun bt120 => (some (bt120.1, (bt120.2 == 0)))
set_option maxHeartbeats 8000000 in
set_option maxRecDepth 100000 in
theorem cal_fixed_day.calls (k : Nat) (a0_0 a0_1 a0_2 a0_3 a0_4 a0_5 a0_6 a0_7 a0_8 a1 r1 : Int) (r2 : Bool) (w : World) (h : cal_fixed_day.f k a0_0 a0_1 a0_2 a0_3 a0_4 a0_5 a0_6 a0_7 a0_8 a1 = some (r1, r2)) :
  Calls Try.prog 155 #[.agg #[.int .i64 a0_0, .int .i64 a0_1, .int .i64 a0_2, .int .i64 a0_3, .int .i64 a0_4, .int .i64 a0_5, .int .i64 a0_6, .int .i64 a0_7, .int .i64 a0_8], .int .i64 a1] w fun e w' => e = .returned (.tuple #[.int .i64 r1, .bool r2]) ∧ Below w.heap.size w w' := by
 have hu132 := Try.underlying132
 have HB := Aside0.mk (Below.refl w.heap.size w)
 have H : ((date_Of.f k a1 a0_1 a0_2).bind fun bt120 => (some (bt120.1, (bt120.2 == 0)))) = some (r1, r2) := h
 clear h;replace H := Option.bind_eq_some_iff.mp H
 obtain ⟨⟨t120, t121⟩, A30, H⟩ := H
 replace H : (some (t120, (t121 == 0))) = some (r1, r2) := H
 have A3 := Aside0.mk A30;clear A30
 simp only [Option.some.injEq, Prod.mk.injEq] at H
 obtain ⟨rfl, rfl⟩ := H
 go_enter Try.func155, Try.ntmps155
 go_wp2_with (first | ((with_reducible refine gate_dst (N := 2) rfl ?_); refine box_event ?hg (N := 2) ?hd (cs := #[.int .i64 a0_0, .int .i64 a0_1, .int .i64 a0_2, .int .i64 a0_3, .int .i64 a0_4, .int .i64 a0_5, .int .i64 a0_6, .int .i64 a0_7, .int .i64 a0_8]) (t := 132) ?hr ?_; (case hd => rfl); (case hg => rfl); (case hr => first | (go_simp; done) | (go_simp; rfl)); intro gb119 hg w4 hbox hb; have BK119 := Aside0.mk (hbox); have GW119 := bG hg; have GE119 := bG hg; replace HB := bS hb; clear hb hbox hg; obtain ⟨_,_,_,_,_,_,_,_,_,_,_,_,_,_,_,_,_,_⟩ := blk9 BK119) | ((with_reducible refine gG 95 ?_); refine goA (some 14) Try.func95 #[.int .i64 a1, .int .i64 a0_1, .int .i64 a0_2] ?_; (with_reducible refine (date_Of.calls k a1 a0_1 a0_2 t120 t121 _ A3.out).mono ?_); rintro e w' ⟨rfl, ⟨nd, rfl⟩⟩; refine ⟨_, rfl, ?_⟩))
 go_ret2
 exact ⟨eW, bB⟩
def cal_nth_may.f (a0_0 a0_1 a0_2 a0_3 a0_4 a0_5 a0_6 a0_7 a0_8 : Int) : Option (Bool) := if (Go.bits .or .i64 a0_2 a0_5) = 0 then ((cal_within.f a0_1 1 12).bind fun t123 => (if t123 = true then ((cal_within.f a0_4 0 6).bind fun t124 => (if t124 = true then ((cal_within.f a0_3 1 5).bind fun t125 => (if t125 = true then ((cal_years.f a0_0 a0_1 a0_2 a0_3 a0_4 a0_5 a0_6 a0_7 a0_8).bind fun t126 => (some t126)) else (some false))) else (some false))) else (some false))) else (some false)
set_option maxHeartbeats 8000000 in
set_option maxRecDepth 100000 in
theorem cal_nth_may.calls (a0_0 a0_1 a0_2 a0_3 a0_4 a0_5 a0_6 a0_7 a0_8 : Int) (r : Bool) (w : World) (h : cal_nth_may.f a0_0 a0_1 a0_2 a0_3 a0_4 a0_5 a0_6 a0_7 a0_8 = some r) :
  Calls Try.prog 159 #[.agg #[.int .i64 a0_0, .int .i64 a0_1, .int .i64 a0_2, .int .i64 a0_3, .int .i64 a0_4, .int .i64 a0_5, .int .i64 a0_6, .int .i64 a0_7, .int .i64 a0_8]] w fun e w' => e = .returned (.bool r) ∧ Below w.heap.size w w' := by
 have hu133 := Try.underlying133
 have HB := Aside0.mk (Below.refl w.heap.size w)
 have H : (if (Go.bits .or .i64 a0_2 a0_5) = 0 then ((cal_within.f a0_1 1 12).bind fun t123 => (if t123 = true then ((cal_within.f a0_4 0 6).bind fun t124 => (if t124 = true then ((cal_within.f a0_3 1 5).bind fun t125 => (if t125 = true then ((cal_years.f a0_0 a0_1 a0_2 a0_3 a0_4 a0_5 a0_6 a0_7 a0_8).bind fun t126 => (some t126)) else (some false))) else (some false))) else (some false))) else (some false)) = some r := h
 clear h
 by_cases c2 : (Go.bits .or .i64 a0_2 a0_5) = 0
 ·
  rw [if_pos c2] at H
  have c2b0 : ((Go.bits .or .i64 a0_2 a0_5) == 0) = true := beq_iff_eq.mpr c2
  have c2b1 : ((Go.bits .or .i64 a0_2 a0_5) != 0) = false := bne_eq_false_iff_eq.mpr c2
  clear c2;replace H := Option.bind_eq_some_iff.mp H
  obtain ⟨t123, A30, H⟩ := H
  replace H : (if t123 = true then ((cal_within.f a0_4 0 6).bind fun t124 => (if t124 = true then ((cal_within.f a0_3 1 5).bind fun t125 => (if t125 = true then ((cal_years.f a0_0 a0_1 a0_2 a0_3 a0_4 a0_5 a0_6 a0_7 a0_8).bind fun t126 => (some t126)) else (some false))) else (some false))) else (some false)) = some r := H
  have A3 := Aside0.mk A30;clear A30
  by_cases c4 : t123 = true
  ·
   subst c4
   have H1 : ((cal_within.f a0_4 0 6).bind fun t124 => (if t124 = true then ((cal_within.f a0_3 1 5).bind fun t125 => (if t125 = true then ((cal_years.f a0_0 a0_1 a0_2 a0_3 a0_4 a0_5 a0_6 a0_7 a0_8).bind fun t126 => (some t126)) else (some false))) else (some false))) = some r := by rw [if_pos rfl] at H; exact H
   clear H;have H := H1;clear H1;replace H := Option.bind_eq_some_iff.mp H
   obtain ⟨t124, A50, H⟩ := H
   replace H : (if t124 = true then ((cal_within.f a0_3 1 5).bind fun t125 => (if t125 = true then ((cal_years.f a0_0 a0_1 a0_2 a0_3 a0_4 a0_5 a0_6 a0_7 a0_8).bind fun t126 => (some t126)) else (some false))) else (some false)) = some r := H
   have A5 := Aside0.mk A50;clear A50
   by_cases c6 : t124 = true
   ·
    subst c6
    have H1 : ((cal_within.f a0_3 1 5).bind fun t125 => (if t125 = true then ((cal_years.f a0_0 a0_1 a0_2 a0_3 a0_4 a0_5 a0_6 a0_7 a0_8).bind fun t126 => (some t126)) else (some false))) = some r := by rw [if_pos rfl] at H; exact H
    clear H;have H := H1;clear H1;replace H := Option.bind_eq_some_iff.mp H
    obtain ⟨t125, A70, H⟩ := H
    replace H : (if t125 = true then ((cal_years.f a0_0 a0_1 a0_2 a0_3 a0_4 a0_5 a0_6 a0_7 a0_8).bind fun t126 => (some t126)) else (some false)) = some r := H
    have A7 := Aside0.mk A70;clear A70
    by_cases c8 : t125 = true
    ·
     subst c8
     have H1 : ((cal_years.f a0_0 a0_1 a0_2 a0_3 a0_4 a0_5 a0_6 a0_7 a0_8).bind fun t126 => (some t126)) = some r := by rw [if_pos rfl] at H; exact H
     clear H;have H := H1;clear H1;replace H := Option.bind_eq_some_iff.mp H
     obtain ⟨t126, A90, H⟩ := H
     replace H : (some t126) = some r := H
     have A9 := Aside0.mk A90;clear A90
     obtain rfl := Option.some.inj H
     go_enter Try.func159, Try.ntmps159
     go_wp2_with (first | ((with_reducible refine gate_dst (N := 1) rfl ?_); refine box_event ?hg (N := 1) ?hd (cs := #[.int .i64 a0_0, .int .i64 a0_1, .int .i64 a0_2, .int .i64 a0_3, .int .i64 a0_4, .int .i64 a0_5, .int .i64 a0_6, .int .i64 a0_7, .int .i64 a0_8]) (t := 133) ?hr ?_; (case hd => rfl); (case hg => rfl); (case hr => first | (go_simp; done) | (go_simp; rfl)); intro gb122 hg w10 hbox hb; have BK122 := Aside0.mk (hbox); have GW122 := bG hg; have GE122 := bG hg; replace HB := bS hb; clear hb hbox hg; obtain ⟨_,_,_,_,_,_,_,_,_,_,_,_,_,_,_,_,_,_⟩ := blk9 BK122) | (go_at_call 83; (with_reducible refine (cal_within.calls a0_1 1 12 true _ A3.out).mono ?_); rintro e w' ⟨rfl, ⟨nd, rfl⟩⟩) | (go_at_call 83; (with_reducible refine (cal_within.calls a0_4 0 6 true _ A5.out).mono ?_); rintro e w' ⟨rfl, ⟨nd, rfl⟩⟩) | (go_at_call 83; (with_reducible refine (cal_within.calls a0_3 1 5 true _ A7.out).mono ?_); rintro e w' ⟨rfl, ⟨nd, rfl⟩⟩) | (go_at_call 157; (with_reducible refine (cal_years.calls a0_0 a0_1 a0_2 a0_3 a0_4 a0_5 a0_6 a0_7 a0_8 t126 _ A9.out).mono ?_); rintro e w12 ⟨rfl, hb⟩; replace BK122 := bK BK122 hb; replace HB := bS hb; (try clear hb); (try clear hb2); (try clear hk); (try clear hi)))
     go_ret
     exact ⟨eW, bB⟩
    ·
     replace c8 := Bool.eq_false_iff.mpr c8;subst c8
     have H1 : (some false) = some r := by rw [if_neg (show ¬ (false = true) by decide)] at H; exact H
     clear H;have H := H1;clear H1
     obtain rfl := Option.some.inj H
     go_enter Try.func159, Try.ntmps159
     go_wp2_with (first | ((with_reducible refine gate_dst (N := 1) rfl ?_); refine box_event ?hg (N := 1) ?hd (cs := #[.int .i64 a0_0, .int .i64 a0_1, .int .i64 a0_2, .int .i64 a0_3, .int .i64 a0_4, .int .i64 a0_5, .int .i64 a0_6, .int .i64 a0_7, .int .i64 a0_8]) (t := 133) ?hr ?_; (case hd => rfl); (case hg => rfl); (case hr => first | (go_simp; done) | (go_simp; rfl)); intro gb122 hg w13 hbox hb; have BK122 := Aside0.mk (hbox); have GW122 := bG hg; have GE122 := bG hg; replace HB := bS hb; clear hb hbox hg; obtain ⟨_,_,_,_,_,_,_,_,_,_,_,_,_,_,_,_,_,_⟩ := blk9 BK122) | (go_at_call 83; (with_reducible refine (cal_within.calls a0_1 1 12 true _ A3.out).mono ?_); rintro e w' ⟨rfl, ⟨nd, rfl⟩⟩) | (go_at_call 83; (with_reducible refine (cal_within.calls a0_4 0 6 true _ A5.out).mono ?_); rintro e w' ⟨rfl, ⟨nd, rfl⟩⟩) | (go_at_call 83; (with_reducible refine (cal_within.calls a0_3 1 5 false _ A7.out).mono ?_); rintro e w' ⟨rfl, ⟨nd, rfl⟩⟩))
     go_ret
     exact ⟨eW, bB⟩
   ·
    replace c6 := Bool.eq_false_iff.mpr c6;subst c6
    have H1 : (some false) = some r := by rw [if_neg (show ¬ (false = true) by decide)] at H; exact H
    clear H;have H := H1;clear H1
    obtain rfl := Option.some.inj H
    go_enter Try.func159, Try.ntmps159
    go_wp2_with (first | ((with_reducible refine gate_dst (N := 1) rfl ?_); refine box_event ?hg (N := 1) ?hd (cs := #[.int .i64 a0_0, .int .i64 a0_1, .int .i64 a0_2, .int .i64 a0_3, .int .i64 a0_4, .int .i64 a0_5, .int .i64 a0_6, .int .i64 a0_7, .int .i64 a0_8]) (t := 133) ?hr ?_; (case hd => rfl); (case hg => rfl); (case hr => first | (go_simp; done) | (go_simp; rfl)); intro gb122 hg w15 hbox hb; have BK122 := Aside0.mk (hbox); have GW122 := bG hg; have GE122 := bG hg; replace HB := bS hb; clear hb hbox hg; obtain ⟨_,_,_,_,_,_,_,_,_,_,_,_,_,_,_,_,_,_⟩ := blk9 BK122) | (go_at_call 83; (with_reducible refine (cal_within.calls a0_1 1 12 true _ A3.out).mono ?_); rintro e w' ⟨rfl, ⟨nd, rfl⟩⟩) | (go_at_call 83; (with_reducible refine (cal_within.calls a0_4 0 6 false _ A5.out).mono ?_); rintro e w' ⟨rfl, ⟨nd, rfl⟩⟩))
    go_ret
    exact ⟨eW, bB⟩
  ·
   replace c4 := Bool.eq_false_iff.mpr c4;subst c4
   have H1 : (some false) = some r := by rw [if_neg (show ¬ (false = true) by decide)] at H; exact H
   clear H;have H := H1;clear H1
   obtain rfl := Option.some.inj H
   go_enter Try.func159, Try.ntmps159
   go_wp2_with (first | ((with_reducible refine gate_dst (N := 1) rfl ?_); refine box_event ?hg (N := 1) ?hd (cs := #[.int .i64 a0_0, .int .i64 a0_1, .int .i64 a0_2, .int .i64 a0_3, .int .i64 a0_4, .int .i64 a0_5, .int .i64 a0_6, .int .i64 a0_7, .int .i64 a0_8]) (t := 133) ?hr ?_; (case hd => rfl); (case hg => rfl); (case hr => first | (go_simp; done) | (go_simp; rfl)); intro gb122 hg w17 hbox hb; have BK122 := Aside0.mk (hbox); have GW122 := bG hg; have GE122 := bG hg; replace HB := bS hb; clear hb hbox hg; obtain ⟨_,_,_,_,_,_,_,_,_,_,_,_,_,_,_,_,_,_⟩ := blk9 BK122) | (go_at_call 83; (with_reducible refine (cal_within.calls a0_1 1 12 false _ A3.out).mono ?_); rintro e w' ⟨rfl, ⟨nd, rfl⟩⟩))
   go_ret
   exact ⟨eW, bB⟩
 ·
  rw [if_neg c2] at H
  have c2b0 : ((Go.bits .or .i64 a0_2 a0_5) == 0) = false := beq_eq_false_iff_ne.mpr c2
  have c2b1 : ((Go.bits .or .i64 a0_2 a0_5) != 0) = true := bne_iff_ne.mpr c2
  obtain rfl := Option.some.inj H
  go_enter Try.func159, Try.ntmps159
  go_wp2_with (first | ((with_reducible refine gate_dst (N := 1) rfl ?_); refine box_event ?hg (N := 1) ?hd (cs := #[.int .i64 a0_0, .int .i64 a0_1, .int .i64 a0_2, .int .i64 a0_3, .int .i64 a0_4, .int .i64 a0_5, .int .i64 a0_6, .int .i64 a0_7, .int .i64 a0_8]) (t := 133) ?hr ?_; (case hd => rfl); (case hg => rfl); (case hr => first | (go_simp; done) | (go_simp; rfl)); intro gb122 hg w19 hbox hb; have BK122 := Aside0.mk (hbox); have GW122 := bG hg; have GE122 := bG hg; replace HB := bS hb; clear hb hbox hg; obtain ⟨_,_,_,_,_,_,_,_,_,_,_,_,_,_,_,_,_,_⟩ := blk9 BK122))
  go_ret
  exact ⟨eW, bB⟩
def cal_nth_day.f (k : Nat) (a0_0 a0_1 a0_2 a0_3 a0_4 a0_5 a0_6 a0_7 a0_8 a1 : Int) : Option (Int × Bool) := (date_Of.f k a1 a0_1 1).bind fun bt128 => ((date_Length.f a1 a0_1).bind fun bt130 => (if (wrap64 ((Int.tmod (wrap64 ((wrap64 (a0_4 - (Int.tmod bt128.1 7))) + 7)) 7) + (wrap64 (7 * (wrap64 (a0_3 - 1)))))) ≥ bt130.1 then (some (wrap64 (bt128.1 + (wrap64 ((wrap64 ((Int.tmod (wrap64 ((wrap64 (a0_4 - (Int.tmod bt128.1 7))) + 7)) 7) + (wrap64 (7 * (wrap64 (a0_3 - 1)))))) - 7))), true)) else (some (wrap64 (bt128.1 + (wrap64 ((Int.tmod (wrap64 ((wrap64 (a0_4 - (Int.tmod bt128.1 7))) + 7)) 7) + (wrap64 (7 * (wrap64 (a0_3 - 1))))))), true))))
set_option maxHeartbeats 8000000 in
set_option maxRecDepth 100000 in
theorem cal_nth_day.calls (k : Nat) (a0_0 a0_1 a0_2 a0_3 a0_4 a0_5 a0_6 a0_7 a0_8 a1 r1 : Int) (r2 : Bool) (w : World) (h : cal_nth_day.f k a0_0 a0_1 a0_2 a0_3 a0_4 a0_5 a0_6 a0_7 a0_8 a1 = some (r1, r2)) :
  Calls Try.prog 158 #[.agg #[.int .i64 a0_0, .int .i64 a0_1, .int .i64 a0_2, .int .i64 a0_3, .int .i64 a0_4, .int .i64 a0_5, .int .i64 a0_6, .int .i64 a0_7, .int .i64 a0_8], .int .i64 a1] w fun e w' => e = .returned (.tuple #[.int .i64 r1, .bool r2]) ∧ Below w.heap.size w w' := by
 have hu133 := Try.underlying133
 have HB := Aside0.mk (Below.refl w.heap.size w)
 have H : ((date_Of.f k a1 a0_1 1).bind fun bt128 => ((date_Length.f a1 a0_1).bind fun bt130 => (if (wrap64 ((Int.tmod (wrap64 ((wrap64 (a0_4 - (Int.tmod bt128.1 7))) + 7)) 7) + (wrap64 (7 * (wrap64 (a0_3 - 1)))))) ≥ bt130.1 then (some (wrap64 (bt128.1 + (wrap64 ((wrap64 ((Int.tmod (wrap64 ((wrap64 (a0_4 - (Int.tmod bt128.1 7))) + 7)) 7) + (wrap64 (7 * (wrap64 (a0_3 - 1)))))) - 7))), true)) else (some (wrap64 (bt128.1 + (wrap64 ((Int.tmod (wrap64 ((wrap64 (a0_4 - (Int.tmod bt128.1 7))) + 7)) 7) + (wrap64 (7 * (wrap64 (a0_3 - 1))))))), true))))) = some (r1, r2) := h
 clear h;replace H := Option.bind_eq_some_iff.mp H
 obtain ⟨⟨t128, t129⟩, A30, H⟩ := H
 replace H : ((date_Length.f a1 a0_1).bind fun bt130 => (if (wrap64 ((Int.tmod (wrap64 ((wrap64 (a0_4 - (Int.tmod t128 7))) + 7)) 7) + (wrap64 (7 * (wrap64 (a0_3 - 1)))))) ≥ bt130.1 then (some (wrap64 (t128 + (wrap64 ((wrap64 ((Int.tmod (wrap64 ((wrap64 (a0_4 - (Int.tmod t128 7))) + 7)) 7) + (wrap64 (7 * (wrap64 (a0_3 - 1)))))) - 7))), true)) else (some (wrap64 (t128 + (wrap64 ((Int.tmod (wrap64 ((wrap64 (a0_4 - (Int.tmod t128 7))) + 7)) 7) + (wrap64 (7 * (wrap64 (a0_3 - 1))))))), true)))) = some (r1, r2) := H
 have A3 := Aside0.mk A30;clear A30;replace H := Option.bind_eq_some_iff.mp H
 obtain ⟨⟨t130, t131⟩, A40, H⟩ := H
 replace H : (if (wrap64 ((Int.tmod (wrap64 ((wrap64 (a0_4 - (Int.tmod t128 7))) + 7)) 7) + (wrap64 (7 * (wrap64 (a0_3 - 1)))))) ≥ t130 then (some (wrap64 (t128 + (wrap64 ((wrap64 ((Int.tmod (wrap64 ((wrap64 (a0_4 - (Int.tmod t128 7))) + 7)) 7) + (wrap64 (7 * (wrap64 (a0_3 - 1)))))) - 7))), true)) else (some (wrap64 (t128 + (wrap64 ((Int.tmod (wrap64 ((wrap64 (a0_4 - (Int.tmod t128 7))) + 7)) 7) + (wrap64 (7 * (wrap64 (a0_3 - 1))))))), true))) = some (r1, r2) := H
 have A4 := Aside0.mk A40;clear A40
 by_cases c5 : (wrap64 ((Int.tmod (wrap64 ((wrap64 (a0_4 - (Int.tmod t128 7))) + 7)) 7) + (wrap64 (7 * (wrap64 (a0_3 - 1)))))) ≥ t130
 ·
  rw [if_pos c5] at H
  have c5b0 : decide (t130 ≤ (wrap64 ((Int.tmod (wrap64 ((wrap64 (a0_4 - (Int.tmod t128 7))) + 7)) 7) + (wrap64 (7 * (wrap64 (a0_3 - 1))))))) = true := decide_eq_true c5
  clear c5
  simp only [Option.some.injEq, Prod.mk.injEq] at H
  obtain ⟨rfl, rfl⟩ := H
  go_enter Try.func158, Try.ntmps158
  go_wp2_with (first | ((with_reducible refine gate_dst (N := 2) rfl ?_); refine box_event ?hg (N := 2) ?hd (cs := #[.int .i64 a0_0, .int .i64 a0_1, .int .i64 a0_2, .int .i64 a0_3, .int .i64 a0_4, .int .i64 a0_5, .int .i64 a0_6, .int .i64 a0_7, .int .i64 a0_8]) (t := 133) ?hr ?_; (case hd => rfl); (case hg => rfl); (case hr => first | (go_simp; done) | (go_simp; rfl)); intro gb127 hg w6 hbox hb; have BK127 := Aside0.mk (hbox); have GW127 := bG hg; have GE127 := bG hg; replace HB := bS hb; clear hb hbox hg; obtain ⟨hcz7_0,hcz7_1,hcz7_2,hcz7_3,hcz7_4,hcz7_5,hcz7_6,hcz7_7,hcz7_8,hfz7_0,hfz7_1,hfz7_2,hfz7_3,hfz7_4,hfz7_5,hfz7_6,hfz7_7,hfz7_8⟩ := blk9 BK127) | ((with_reducible refine gG 95 ?_); refine goA (some 15) Try.func95 #[.int .i64 a1, .int .i64 a0_1, .int .i64 1] ?_; (with_reducible refine (date_Of.calls k a1 a0_1 1 t128 t129 _ A3.out).mono ?_); rintro e w' ⟨rfl, ⟨nd, rfl⟩⟩; refine ⟨_, rfl, ?_⟩) | ((with_reducible refine gG 113 ?_); refine goA (some 22) Try.func113 #[.int .i64 a1, .int .i64 a0_1] ?_; (with_reducible refine (date_Length.calls a1 a0_1 t130 t131 _ A4.out).mono ?_); rintro e w' ⟨rfl, ⟨nd, rfl⟩⟩; refine ⟨_, rfl, ?_⟩))
  go_ret2
  exact ⟨eW, bB⟩
 ·
  rw [if_neg c5] at H
  have c5b0 : decide (t130 ≤ (wrap64 ((Int.tmod (wrap64 ((wrap64 (a0_4 - (Int.tmod t128 7))) + 7)) 7) + (wrap64 (7 * (wrap64 (a0_3 - 1))))))) = false := decide_eq_false c5
  clear c5
  simp only [Option.some.injEq, Prod.mk.injEq] at H
  obtain ⟨rfl, rfl⟩ := H
  go_enter Try.func158, Try.ntmps158
  go_wp2_with (first | ((with_reducible refine gate_dst (N := 2) rfl ?_); refine box_event ?hg (N := 2) ?hd (cs := #[.int .i64 a0_0, .int .i64 a0_1, .int .i64 a0_2, .int .i64 a0_3, .int .i64 a0_4, .int .i64 a0_5, .int .i64 a0_6, .int .i64 a0_7, .int .i64 a0_8]) (t := 133) ?hr ?_; (case hd => rfl); (case hg => rfl); (case hr => first | (go_simp; done) | (go_simp; rfl)); intro gb127 hg w8 hbox hb; have BK127 := Aside0.mk (hbox); have GW127 := bG hg; have GE127 := bG hg; replace HB := bS hb; clear hb hbox hg; obtain ⟨_,_,_,_,_,_,_,_,_,_,_,_,_,_,_,_,_,_⟩ := blk9 BK127) | ((with_reducible refine gG 95 ?_); refine goA (some 15) Try.func95 #[.int .i64 a1, .int .i64 a0_1, .int .i64 1] ?_; (with_reducible refine (date_Of.calls k a1 a0_1 1 t128 t129 _ A3.out).mono ?_); rintro e w' ⟨rfl, ⟨nd, rfl⟩⟩; refine ⟨_, rfl, ?_⟩) | ((with_reducible refine gG 113 ?_); refine goA (some 22) Try.func113 #[.int .i64 a1, .int .i64 a0_1] ?_; (with_reducible refine (date_Length.calls a1 a0_1 t130 t131 _ A4.out).mono ?_); rintro e w' ⟨rfl, ⟨nd, rfl⟩⟩; refine ⟨_, rfl, ?_⟩))
  go_ret2
  exact ⟨eW, bB⟩
def cal_easter_may.f (a0_0 a0_1 a0_2 a0_3 a0_4 a0_5 a0_6 a0_7 a0_8 : Int) : Option (Bool) := if (Go.bits .or .i64 (Go.bits .or .i64 (Go.bits .or .i64 a0_1 a0_2) a0_3) a0_4) = 0 then ((cal_within.f a0_5 (-100) 100).bind fun t133 => (if t133 = true then ((cal_years.f a0_0 a0_1 a0_2 a0_3 a0_4 a0_5 a0_6 a0_7 a0_8).bind fun t134 => (some t134)) else (some false))) else (some false)
set_option maxHeartbeats 8000000 in
set_option maxRecDepth 100000 in
theorem cal_easter_may.calls (a0_0 a0_1 a0_2 a0_3 a0_4 a0_5 a0_6 a0_7 a0_8 : Int) (r : Bool) (w : World) (h : cal_easter_may.f a0_0 a0_1 a0_2 a0_3 a0_4 a0_5 a0_6 a0_7 a0_8 = some r) :
  Calls Try.prog 161 #[.agg #[.int .i64 a0_0, .int .i64 a0_1, .int .i64 a0_2, .int .i64 a0_3, .int .i64 a0_4, .int .i64 a0_5, .int .i64 a0_6, .int .i64 a0_7, .int .i64 a0_8]] w fun e w' => e = .returned (.bool r) ∧ Below w.heap.size w w' := by
 have hu134 := Try.underlying134
 have HB := Aside0.mk (Below.refl w.heap.size w)
 have H : (if (Go.bits .or .i64 (Go.bits .or .i64 (Go.bits .or .i64 a0_1 a0_2) a0_3) a0_4) = 0 then ((cal_within.f a0_5 (-100) 100).bind fun t133 => (if t133 = true then ((cal_years.f a0_0 a0_1 a0_2 a0_3 a0_4 a0_5 a0_6 a0_7 a0_8).bind fun t134 => (some t134)) else (some false))) else (some false)) = some r := h
 clear h
 by_cases c2 : (Go.bits .or .i64 (Go.bits .or .i64 (Go.bits .or .i64 a0_1 a0_2) a0_3) a0_4) = 0
 ·
  rw [if_pos c2] at H
  have c2b0 : ((Go.bits .or .i64 (Go.bits .or .i64 (Go.bits .or .i64 a0_1 a0_2) a0_3) a0_4) == 0) = true := beq_iff_eq.mpr c2
  have c2b1 : ((Go.bits .or .i64 (Go.bits .or .i64 (Go.bits .or .i64 a0_1 a0_2) a0_3) a0_4) != 0) = false := bne_eq_false_iff_eq.mpr c2
  clear c2;replace H := Option.bind_eq_some_iff.mp H
  obtain ⟨t133, A30, H⟩ := H
  replace H : (if t133 = true then ((cal_years.f a0_0 a0_1 a0_2 a0_3 a0_4 a0_5 a0_6 a0_7 a0_8).bind fun t134 => (some t134)) else (some false)) = some r := H
  have A3 := Aside0.mk A30;clear A30
  by_cases c4 : t133 = true
  ·
   subst c4
   have H1 : ((cal_years.f a0_0 a0_1 a0_2 a0_3 a0_4 a0_5 a0_6 a0_7 a0_8).bind fun t134 => (some t134)) = some r := by rw [if_pos rfl] at H; exact H
   clear H;have H := H1;clear H1;replace H := Option.bind_eq_some_iff.mp H
   obtain ⟨t134, A50, H⟩ := H
   replace H : (some t134) = some r := H
   have A5 := Aside0.mk A50;clear A50
   obtain rfl := Option.some.inj H
   go_enter Try.func161, Try.ntmps161
   go_wp2_with (first | ((with_reducible refine gate_dst (N := 1) rfl ?_); refine box_event ?hg (N := 1) ?hd (cs := #[.int .i64 a0_0, .int .i64 a0_1, .int .i64 a0_2, .int .i64 a0_3, .int .i64 a0_4, .int .i64 a0_5, .int .i64 a0_6, .int .i64 a0_7, .int .i64 a0_8]) (t := 134) ?hr ?_; (case hd => rfl); (case hg => rfl); (case hr => first | (go_simp; done) | (go_simp; rfl)); intro gb132 hg w6 hbox hb; have BK132 := Aside0.mk (hbox); have GW132 := bG hg; have GE132 := bG hg; replace HB := bS hb; clear hb hbox hg; obtain ⟨hcz7_0,hcz7_1,hcz7_2,hcz7_3,hcz7_4,hcz7_5,hcz7_6,hcz7_7,hcz7_8,hfz7_0,hfz7_1,hfz7_2,hfz7_3,hfz7_4,hfz7_5,hfz7_6,hfz7_7,hfz7_8⟩ := blk9 BK132) | (go_at_call 83; (with_reducible refine (cal_within.calls a0_5 (-100) 100 true _ A3.out).mono ?_); rintro e w' ⟨rfl, ⟨nd, rfl⟩⟩) | (go_at_call 157; (with_reducible refine (cal_years.calls a0_0 a0_1 a0_2 a0_3 a0_4 a0_5 a0_6 a0_7 a0_8 t134 _ A5.out).mono ?_); rintro e w8 ⟨rfl, hb⟩; replace BK132 := bK BK132 hb; replace HB := bS hb; (try clear hb); (try clear hb2); (try clear hk); (try clear hi)))
   go_ret
   exact ⟨eW, bB⟩
  ·
   replace c4 := Bool.eq_false_iff.mpr c4;subst c4
   have H1 : (some false) = some r := by rw [if_neg (show ¬ (false = true) by decide)] at H; exact H
   clear H;have H := H1;clear H1
   obtain rfl := Option.some.inj H
   go_enter Try.func161, Try.ntmps161
   go_wp2_with (first | ((with_reducible refine gate_dst (N := 1) rfl ?_); refine box_event ?hg (N := 1) ?hd (cs := #[.int .i64 a0_0, .int .i64 a0_1, .int .i64 a0_2, .int .i64 a0_3, .int .i64 a0_4, .int .i64 a0_5, .int .i64 a0_6, .int .i64 a0_7, .int .i64 a0_8]) (t := 134) ?hr ?_; (case hd => rfl); (case hg => rfl); (case hr => first | (go_simp; done) | (go_simp; rfl)); intro gb132 hg w9 hbox hb; have BK132 := Aside0.mk (hbox); have GW132 := bG hg; have GE132 := bG hg; replace HB := bS hb; clear hb hbox hg; obtain ⟨_,_,_,_,_,_,_,_,_,_,_,_,_,_,_,_,_,_⟩ := blk9 BK132) | (go_at_call 83; (with_reducible refine (cal_within.calls a0_5 (-100) 100 false _ A3.out).mono ?_); rintro e w' ⟨rfl, ⟨nd, rfl⟩⟩))
   go_ret
   exact ⟨eW, bB⟩
 ·
  rw [if_neg c2] at H
  have c2b0 : ((Go.bits .or .i64 (Go.bits .or .i64 (Go.bits .or .i64 a0_1 a0_2) a0_3) a0_4) == 0) = false := beq_eq_false_iff_ne.mpr c2
  have c2b1 : ((Go.bits .or .i64 (Go.bits .or .i64 (Go.bits .or .i64 a0_1 a0_2) a0_3) a0_4) != 0) = true := bne_iff_ne.mpr c2
  obtain rfl := Option.some.inj H
  go_enter Try.func161, Try.ntmps161
  go_wp2_with (first | ((with_reducible refine gate_dst (N := 1) rfl ?_); refine box_event ?hg (N := 1) ?hd (cs := #[.int .i64 a0_0, .int .i64 a0_1, .int .i64 a0_2, .int .i64 a0_3, .int .i64 a0_4, .int .i64 a0_5, .int .i64 a0_6, .int .i64 a0_7, .int .i64 a0_8]) (t := 134) ?hr ?_; (case hd => rfl); (case hg => rfl); (case hr => first | (go_simp; done) | (go_simp; rfl)); intro gb132 hg w11 hbox hb; have BK132 := Aside0.mk (hbox); have GW132 := bG hg; have GE132 := bG hg; replace HB := bS hb; clear hb hbox hg; obtain ⟨_,_,_,_,_,_,_,_,_,_,_,_,_,_,_,_,_,_⟩ := blk9 BK132))
  go_ret
  exact ⟨eW, bB⟩
end Go.Proofs.Ytoncignjcgjhhaa.Q
namespace Go.Proofs.Ytoncignjcgjhhaa.L
open Go.RowKit Go.Proofs.YtoncignjcgjhhaaW.PrintWords Go.Proofs.YtoncignjcgjhhaaW.PrintLast Go.Proofs.YtoncignjcgjhhaaW.PrintMore
open Go.Proofs.Ytoncignjcgjhhaa.Q
theorem w64 {x : Int} (h0 : -9223372036854775808 ≤ x) (h1 : x ≤ 9223372036854775807) : wrap64 x = x := by unfold wrap64; omega
theorem td {a b : Int} (h : 0 ≤ a) : Int.tdiv a b = a / b := Int.tdiv_eq_ediv_of_nonneg h
theorem tm {a b : Int} (h : 0 ≤ a) : Int.tmod a b = a % b := Int.tmod_eq_emod_of_nonneg h
theorem tm0 (a b : Int) : Int.tmod a b = 0 ↔ a % b = 0 := ⟨fun h => Int.emod_eq_zero_of_dvd (Int.dvd_of_tmod_eq_zero h), fun h => Int.tmod_eq_zero_of_dvd (Int.dvd_of_emod_eq_zero h)⟩
theorem within (a b c : Int) : cal_within.f a b c = some (decide (b ≤ a ∧ a ≤ c)) := by
 unfold cal_within.f
 by_cases h : a ≥ b
 ·
  rw [if_pos h]; simp [h]
 ·
  rw [if_neg h]; simp; omega
theorem leap (y : Int) : date_Leap.f y = some (M.leap y) := by
 unfold date_Leap.f M.leap
 simp only [tm0]
 by_cases h4 : y % 4 = 0
 ·
  rw [if_pos h4]
  by_cases h100 : y % 100 = 0
  ·
   rw [if_pos h100]
   by_cases h400 : y % 400 = 0
   ·
    have : Int.tmod y 400 = 0 := (tm0 y 400).2 h400
    simp [h4, h400, this]
   ·
    have : ¬ Int.tmod y 400 = 0 := fun e => h400 ((tm0 y 400).1 e)
    simp [h4, h100, h400, this]
  ·
   rw [if_neg h100]; simp [h4, h100]
 ·
  rw [if_neg h4]; simp [h4]
theorem length (y m : Int) : date_length.f y m = some (M.mlen y m) := by
 unfold date_length.f M.mlen
 rw [leap]
 by_cases h2 : m = 2
 ·
  rw [if_pos h2, if_pos h2]; cases M.leap y <;> rfl
 ·
  rw [if_neg h2, if_neg h2]; repeat' split
  all_goals rfl
theorem Length (y m : Int) : date_Length.f y m = some (if 1900 ≤ y ∧ y ≤ 2199 ∧ 1 ≤ m ∧ m ≤ 12 then (M.mlen y m, 0) else (0, 50)) := by
 have hm : date_month.f y m = some (decide (1900 ≤ y ∧ y ≤ 2199 ∧ 1 ≤ m ∧ m ≤ 12)) := by
  unfold date_month.f
  repeat' split
  all_goals first | (congr 1; rw [decide_eq_decide]; omega) | (congr 1; symm; rw [decide_eq_false_iff_not]; omega)
 unfold date_Length.f
 rw [hm, length]
 by_cases h : 1900 ≤ y ∧ y ≤ 2199 ∧ 1 ≤ m ∧ m ≤ 12 <;> simp [h]
theorem before (y : Int) (h0 : 1 ≤ y) (h1 : y ≤ 3000) : date_before.f y = some (M.before y) := by
 unfold date_before.f M.before
 simp (disch := omega) only [w64, td]
theorem day_l (y m n : Int) (hn : -1000000 ≤ n) (hn1 : n ≤ 2000000) (hm : 1 ≤ m) (hm1 : m ≤ 12) : ∀ (d : Nat) (i : Int), 0 ≤ i → i ≤ m - 1 → m - 1 - i = d →
  Ev (fun k => date_day.l0 k y (n + M.cum y (i + 1)) (m - 1) i) (n + M.cum y m)
 | 0, i, a, b, c => by
  refine Ev.step (f := fun _ => some (n + M.cum y m)) (fun k => ?_) (Ev.now _)
  simp only [date_day.l0]
  rw [if_neg (by omega), show i + 1 = m from by omega]
 | d + 1, i, a, b, c => by
  have ih := day_l y m n hn hn1 hm hm1 d (i + 1) (by omega) (by omega) (by omega)
  refine Ev.step (fun k => ?_) ih
  simp only [date_day.l0]
  have r := M.cum_rng y (i + 1)
  have l := M.mlen_rng y (i + 1)
  have s := M.cum_succ y (i + 1) (by omega) (by omega)
  rw [if_pos (by omega), w64 (by omega) (by omega), length]
  simp only [Option.bind_some]
  rw [w64 (by omega) (by omega), show n + M.cum y (i + 1) + M.mlen y (i + 1) = n + M.cum y (i + 1 + 1) from by omega]
theorem before_rng (y : Int) (h0 : 1 ≤ y) (h1 : y ≤ 3000) : -800000 ≤ M.before y ∧ M.before y ≤ 500000 := by unfold M.before; omega
theorem day (y m d : Int) (h0 : 1 ≤ y) (h1 : y ≤ 3000) (hm : 1 ≤ m) (hm1 : m ≤ 12) (hd : -1000 ≤ d) (hd1 : d ≤ 1000) : Ev (fun k => date_day.f k y m d) (M.dayOf y m d) := by
 have hb := before_rng y h0 h1
 have h := day_l y m (M.before y + d - 1) (by omega) (by omega) hm hm1 (m - 1).toNat 0 (by omega) (by omega) (by omega)
 refine Ev.congr (fun k => ?_) (by rw [show M.dayOf y m d = M.before y + d - 1 + M.cum y m from by unfold M.dayOf; omega]; exact h)
 unfold date_day.f
 rw [before y h0 h1]
 simp only [Option.bind_some]
 rw [w64 (x := M.before y + d) (by omega) (by omega), w64 (x := M.before y + d - 1) (by omega) (by omega), w64 (x := m - 1) (by omega) (by omega), show M.cum y (0 + 1) = 0 from M.cum_1 y, Int.add_zero]
theorem Of (y m d : Int) : Ev (fun k => date_Of.f k y m d) (if M.isDate y m d then (M.dayOf y m d, 0) else (0, 50)) := by
 have hm : date_month.f y m = some (decide (1900 ≤ y ∧ y ≤ 2199 ∧ 1 ≤ m ∧ m ≤ 12)) := by
  unfold date_month.f
  repeat' split
  all_goals first | (congr 1; rw [decide_eq_decide]; omega) | (congr 1; symm; rw [decide_eq_false_iff_not]; omega)
 have hl := M.mlen_rng y m
 by_cases h : M.isDate y m d
 ·
  rw [if_pos h]
  obtain ⟨a, b, c, e, f, g⟩ := h
  have hd := day y m d (by omega) (by omega) c e (by omega) (by omega)
  have hd2 := Ev.bind (f := fun _ t => some (t, (0 : Int))) hd (Ev.now _)
  refine Ev.congr (fun k => ?_) hd2
  unfold date_Of.f
  rw [hm, length]
  simp only [Option.bind_some, a, b, c, e, and_self, decide_true, if_true]
  rw [if_neg (by omega), if_neg (by omega)]
 ·
  rw [if_neg h]
  refine Ev.congr (fun k => ?_) (Ev.now _)
  unfold date_Of.f
  rw [hm, length]
  simp only [Option.bind_some]
  by_cases h2 : 1900 ≤ y ∧ y ≤ 2199 ∧ 1 ≤ m ∧ m ≤ 12
  ·
   rw [if_pos (by simp [h2])]
   by_cases h3 : d < 1
   ·
    rw [if_pos h3]
   ·
    rw [if_neg h3, if_pos (by rcases Int.lt_or_le (M.mlen y m) d with h5 | h5; exact h5; exact absurd ⟨h2.1, h2.2.1, h2.2.2.1, h2.2.2.2, by omega, h5⟩ h)]
  ·
   rw [if_neg (by simpa using h2)]
end Go.Proofs.Ytoncignjcgjhhaa.L
namespace Go.Proofs.Ytoncignjcgjhhaa.L
open Go.RowKit Go.Proofs.YtoncignjcgjhhaaW.PrintWords Go.Proofs.YtoncignjcgjhhaaW.PrintLast Go.Proofs.YtoncignjcgjhhaaW.PrintMore
open Go.Proofs.Ytoncignjcgjhhaa.Q
def i64 (x : Int) : Prop := -9223372036854775808 ≤ x ∧ x ≤ 9223372036854775807
theorem ofInt0 {x : Int} (h : i64 x) : BitVec.ofInt 64 x = 0#64 ↔ x = 0 := by
 unfold i64 at h
 constructor
 ·
  intro e
  have := congrArg BitVec.toInt e
  rw [BitVec.toInt_ofInt] at this
  simp only [Int.bmod] at this
  simp at this
  omega
 ·
  rintro rfl; rfl
theorem wrap_i64 (n : Nat) (h : n < 18446744073709551616) : IntKind.i64.wrap (n : Int) = if 9223372036854775808 ≤ (n : Int) then (n : Int) - 18446744073709551616 else n := by
 have hb : IntKind.i64.bits = 64 := rfl
 have hs : IntKind.i64.signed = true := rfl
 unfold IntKind.wrap
 rw [hb, hs]
 simp only [Bool.true_and, decide_eq_true_eq]
 have e : (n : Int) % 2 ^ 64 = n := by omega
 rw [e]
 simp
theorem or_eq (x y : Int) : bits .or .i64 x y = IntKind.i64.wrap ((BitVec.ofInt 64 x ||| BitVec.ofInt 64 y).toNat : Int) := rfl
theorem or_i64 (x y : Int) : i64 (bits .or .i64 x y) := by
 rw [or_eq, wrap_i64 _ (BitVec.isLt _)]
 have := (BitVec.ofInt 64 x ||| BitVec.ofInt 64 y).isLt
 unfold i64
 split <;> omega
theorem or0 {x y : Int} (hx : i64 x) (hy : i64 y) : bits .or .i64 x y = 0 ↔ x = 0 ∧ y = 0 := by
 rw [or_eq, wrap_i64 _ (BitVec.isLt _)]
 have hl := (BitVec.ofInt 64 x ||| BitVec.ofInt 64 y).isLt
 rw [← ofInt0 hx, ← ofInt0 hy]
 constructor
 ·
  intro h
  have h0 : (BitVec.ofInt 64 x ||| BitVec.ofInt 64 y).toNat = 0 := by
   split at h <;> omega
  have h1 : BitVec.ofInt 64 x ||| BitVec.ofInt 64 y = 0#64 := BitVec.eq_of_toNat_eq (by simpa using h0)
  exact BitVec.or_eq_zero_iff.1 h1
 ·
  rintro ⟨a, b⟩
  rw [a, b]; rfl
variable {a0 a1 a2 a3 a4 a5 a6 a7 a8 : Int}
theorem years : cal_years.f a0 a1 a2 a3 a4 a5 a6 a7 a8 = some (M.yearsOk ⟨a0, a1, a2, a3, a4, a5, a6, a7, a8⟩) := by
 unfold cal_years.f M.yearsOk
 simp only [within, Option.bind_some]
 by_cases h1 : 1900 ≤ a6 ∧ a6 ≤ 2199
 ·
  rw [if_pos (by simpa using h1)]
  by_cases h2 : a6 ≤ a7 ∧ a7 ≤ 2199
  ·
   rw [if_pos (by simpa using h2)]; congr 1; rw [decide_eq_decide]; omega
  ·
   rw [if_neg (by simpa using h2)]; congr 1; symm; rw [decide_eq_false_iff_not]; omega
 ·
  rw [if_neg (by simpa using h1)]; congr 1; symm; rw [decide_eq_false_iff_not]; omega
theorem may_fixed (h3 : i64 a3) (h4 : i64 a4) (h5 : i64 a5) (k : Nat) : cal_fixed_may.f (k + 1) 1 a1 a2 a3 a4 a5 a6 a7 a8 = some (M.may ⟨1, a1, a2, a3, a4, a5, a6, a7, a8⟩) := by
 have ho : bits .or .i64 (bits .or .i64 a3 a4) a5 = 0 ↔ (a3 = 0 ∧ a4 = 0) ∧ a5 = 0 := by rw [or0 (or_i64 _ _) h5, or0 h3 h4]
 have hL := Length 2000 a1
 unfold cal_fixed_may.f M.may
 simp only [cal_fixed_may.j0, within, years, Option.bind_some, if_true]
 by_cases h1 : 1 ≤ a1 ∧ a1 ≤ 12
 ·
  rw [if_pos (by simpa using h1)]
  by_cases hz : (a3 = 0 ∧ a4 = 0) ∧ a5 = 0
  ·
   have hz' : (bits .or .i64 (bits .or .i64 a3 a4) a5 != 0) = false := by rw [ho.2 hz]; rfl
   rw [if_pos (show 1900 ≤ (2000 : Int) ∧ (2000 : Int) ≤ 2199 ∧ 1 ≤ a1 ∧ a1 ≤ 12 from ⟨by omega, by omega, h1.1, h1.2⟩)] at hL
   rw [hz', hL]
   simp only [Option.bind_some, Bool.false_eq_true, if_false]
   by_cases h2 : 1 ≤ a2 ∧ a2 ≤ M.mlen 2000 a1
   ·
    rw [if_pos (by simpa using h2)]; congr 1; simp [h1, h2, hz]
   ·
    rw [if_neg (by simpa using h2)]; congr 1; symm; rw [Bool.and_eq_false_iff]; left; rw [decide_eq_false_iff_not]; omega
  ·
   have hz' : (bits .or .i64 (bits .or .i64 a3 a4) a5 != 0) = true := by rw [bne_iff_ne]; exact fun e => hz (ho.1 e)
   rw [hz', if_pos rfl]; congr 1; symm; rw [Bool.and_eq_false_iff]; left; rw [decide_eq_false_iff_not]; omega
 ·
  rw [if_neg (by simpa using h1)]; congr 1; symm; rw [Bool.and_eq_false_iff]; left; rw [decide_eq_false_iff_not]; omega
theorem may_nth (h2 : i64 a2) (h5 : i64 a5) : cal_nth_may.f 2 a1 a2 a3 a4 a5 a6 a7 a8 = some (M.may ⟨2, a1, a2, a3, a4, a5, a6, a7, a8⟩) := by
 have ho : bits .or .i64 a2 a5 = 0 ↔ a2 = 0 ∧ a5 = 0 := or0 h2 h5
 unfold cal_nth_may.f M.may
 simp only [within, years, Option.bind_some, if_true, show ¬ ((2 : Int) = 1) from by decide, if_false]
 have no : ∀ {p : Prop} [Decidable p] {b : Bool}, ¬ p → some false = some (decide p && b) := by intro p _ b h; simp [h]
 by_cases hz : a2 = 0 ∧ a5 = 0
 ·
  rw [if_pos (ho.2 hz)]
  by_cases h1 : 1 ≤ a1 ∧ a1 ≤ 12
  ·
   rw [if_pos (by simpa using h1)]
   by_cases h4 : 0 ≤ a4 ∧ a4 ≤ 6
   ·
    rw [if_pos (by simpa using h4)]
    by_cases h3 : 1 ≤ a3 ∧ a3 ≤ 5
    ·
     rw [if_pos (by simpa using h3)]; congr 1; simp [h1, h3, h4, hz]
    ·
     rw [if_neg (by simpa using h3)]; exact no (by omega)
   ·
    rw [if_neg (by simpa using h4)]; exact no (by omega)
  ·
   rw [if_neg (by simpa using h1)]; exact no (by omega)
 ·
  rw [if_neg (fun e => hz (ho.1 e))]; exact no (by omega)
theorem may_easter (h1 : i64 a1) (h2 : i64 a2) (h3 : i64 a3) (h4 : i64 a4) : cal_easter_may.f 3 a1 a2 a3 a4 a5 a6 a7 a8 = some (M.may ⟨3, a1, a2, a3, a4, a5, a6, a7, a8⟩) := by
 have ho : bits .or .i64 (bits .or .i64 (bits .or .i64 a1 a2) a3) a4 = 0 ↔ ((a1 = 0 ∧ a2 = 0) ∧ a3 = 0) ∧ a4 = 0 := by rw [or0 (or_i64 _ _) h4, or0 (or_i64 _ _) h3, or0 h1 h2]
 unfold cal_easter_may.f M.may
 simp only [within, years, Option.bind_some, if_true, show ¬ ((3 : Int) = 1) from by decide, show ¬ ((3 : Int) = 2) from by decide, if_false]
 have no : ∀ {p : Prop} [Decidable p] {b : Bool}, ¬ p → some false = some (decide p && b) := by intro p _ b h; simp [h]
 by_cases hz : ((a1 = 0 ∧ a2 = 0) ∧ a3 = 0) ∧ a4 = 0
 ·
  rw [if_pos (ho.2 hz)]
  by_cases h5 : -100 ≤ a5 ∧ a5 ≤ 100
  ·
   rw [if_pos (by simpa using h5)]; congr 1; simp [h5, hz]
  ·
   rw [if_neg (by simpa using h5)]; exact no (by omega)
 ·
  rw [if_neg (fun e => hz (ho.1 e))]; exact no (by omega)
end Go.Proofs.Ytoncignjcgjhhaa.L
namespace Go.Proofs.Ytoncignjcgjhhaa.H
open Go.RowKit Go.Maps Go.Proofs.YtoncignjcgjhhaaW.PrintWords Go.Proofs.YtoncignjcgjhhaaW.PrintLast Go.Proofs.YtoncignjcgjhhaaW.PrintMore
theorem month_calls (y m : Int) (b : Bool) (hb : decide (1900 ≤ y ∧ y ≤ 2199 ∧ 1 ≤ m ∧ m ≤ 12) = b) (w : World) : Calls Try.prog 121 #[.int .i64 y, .int .i64 m] w fun e w' => e = .returned (.bool b) ∧ Drawn0 w w' := by
 refine Q.date_month.calls y m b w ?_
 rw [← hb]
 unfold Q.date_month.f
 repeat' split
 all_goals first | (congr 1; rw [decide_eq_decide]; omega) | (congr 1; symm; rw [decide_eq_false_iff_not]; omega)
theorem day_calls (y m d : Int) (h0 : 1 ≤ y) (h1 : y ≤ 3000) (hm : 1 ≤ m) (hm1 : m ≤ 12) (hd : -1000 ≤ d) (hd1 : d ≤ 1000) (w : World) :
  Calls Try.prog 123 #[.int .i64 y, .int .i64 m, .int .i64 d] w fun e w' => e = .returned (.int .i64 (M.dayOf y m d)) ∧ Drawn0 w w' := by
 obtain ⟨k, hk⟩ := (L.day y m d h0 h1 hm hm1 hd hd1).rounds
 exact Q.date_day.calls k y m d _ w hk
theorem easter_day (y m d : Int) (h0 : 1900 ≤ y) (h1 : y ≤ 2199) (em : m = M.eT y / 31) (ed : d = M.eT y % 31 + 1) (w : World) :
  Calls Try.prog 123 #[.int .i64 y, .int .i64 m, .int .i64 d] w fun e w' => e = .returned (.int .i64 (M.easterDay y)) ∧ Drawn0 w w' := by
 obtain ⟨⟨a, b, c, e, f, g⟩, _⟩ := M.easter_spec y h0 h1
 have := M.mlen_rng y (M.eT y / 31)
 subst em ed
 exact day_calls _ _ _ (by omega) (by omega) c e (by omega) (by omega) w
theorem m4 (y : Int) : y % 100 % 4 = y % 4 := by omega
set_option maxHeartbeats 1000000 in
set_option maxRecDepth 100000 in
theorem easter_yes (y : Int) (h0 : 1900 ≤ y) (h1 : y ≤ 2199) (w : World) :
  Calls Try.prog 162 #[.int .i64 y] w fun e w' => e = .returned (.tuple #[.int .i64 (M.easterDay y), .int .i64 0]) ∧ Drawn0 w w' := by
 go_enter Try.func162, Try.ntmps162
 go_wp2_with (first | (go_at_call 121; refine (month_calls _ _ true (by simp; omega) _).mono ?_; rintro e w' ⟨rfl, ⟨n, rfl⟩⟩))
 refine (easter_day y _ _ h0 h1 ?_ ?_ _).mono ?_
 ·
  simp only [M.eT, m4]
 ·
  simp only [M.eT, m4]
 rintro e w' ⟨rfl, ⟨n2, rfl⟩⟩
 go_wp2_with fail
 go_ret2
 exact ⟨rfl, by repeat (first | exact Drawn0.refl _ | apply Drawn0.step)⟩
theorem easter_no (y : Int) (h : ¬ (1900 ≤ y ∧ y ≤ 2199)) (w : World) :
  Calls Try.prog 162 #[.int .i64 y] w fun e w' => e = .returned (.tuple #[.int .i64 0, .int .i64 50]) ∧ Drawn0 w w' := by
 have H := Aside0.mk h; clear h
 go_enter Try.func162, Try.ntmps162
 go_wp2_with (first | (go_at_call 121; refine (month_calls _ _ false (by have := H.out; simp; omega) _).mono ?_; rintro e w' ⟨rfl, ⟨n, rfl⟩⟩))
 go_ret2
 exact ⟨rfl, by repeat (first | exact Drawn0.refl _ | apply Drawn0.step)⟩
def easterF (y : Int) : Int × Int := if 1900 ≤ y ∧ y ≤ 2199 then (M.easterDay y, 0) else (0, 50)
theorem easter_calls (y : Int) (w : World) : Calls Try.prog 162 #[.int .i64 y] w fun e w' => e = .returned (.tuple #[.int .i64 (easterF y).1, .int .i64 (easterF y).2]) ∧ Drawn0 w w' := by
 unfold easterF
 by_cases h : 1900 ≤ y ∧ y ≤ 2199
 ·
  rw [if_pos h]; exact easter_yes y h.1 h.2 w
 ·
  rw [if_neg h]; exact easter_no y h w
end Go.Proofs.Ytoncignjcgjhhaa.H
namespace Go.Proofs.Ytoncignjcgjhhaa.Q
open Go.RowKit Go.Proofs.YtoncignjcgjhhaaW.PrintWords Go.Proofs.YtoncignjcgjhhaaW.PrintLast Go.Proofs.YtoncignjcgjhhaaW.PrintMore
attribute [local go_sem] max2_int min2_int max_two min_two max_three min_three max_four min_four   -- for this text's walks alone
def date_Easter.f (a0 : Int) : Option (Int × Int) := some (Go.Proofs.Ytoncignjcgjhhaa.H.easterF a0)
theorem date_Easter.calls (a0 r1 r2 : Int) (w : World) (h : date_Easter.f a0 = some (r1, r2)) :
  Calls Try.prog 162 #[.int .i64 a0] w fun e w' => e = .returned (.tuple #[.int .i64 r1, .int .i64 r2]) ∧ Drawn0 w w' := by
 have e := Option.some.inj h;have c := Go.Proofs.Ytoncignjcgjhhaa.H.easter_calls a0 w
 rw [e] at c
 exact c
end Go.Proofs.Ytoncignjcgjhhaa.Q
namespace Go.Proofs.Ytoncignjcgjhhaa.Q
open Go.RowKit Go.Proofs.YtoncignjcgjhhaaW.PrintWords Go.Proofs.YtoncignjcgjhhaaW.PrintLast Go.Proofs.YtoncignjcgjhhaaW.PrintMore
attribute [local go_sem] max2_int min2_int max_two min_two max_three min_three max_four min_four   -- for this text's walks alone
def cal_easter_day.f (a0_0 a0_1 a0_2 a0_3 a0_4 a0_5 a0_6 a0_7 a0_8 a1 : Int) : Option (Int × Bool) := (date_Easter.f a1).bind fun bt136 => (some (wrap64 (bt136.1 + a0_5), true))
set_option maxHeartbeats 8000000 in
set_option maxRecDepth 100000 in
theorem cal_easter_day.calls (a0_0 a0_1 a0_2 a0_3 a0_4 a0_5 a0_6 a0_7 a0_8 a1 r1 : Int) (r2 : Bool) (w : World) (h : cal_easter_day.f a0_0 a0_1 a0_2 a0_3 a0_4 a0_5 a0_6 a0_7 a0_8 a1 = some (r1, r2)) :
  Calls Try.prog 160 #[.agg #[.int .i64 a0_0, .int .i64 a0_1, .int .i64 a0_2, .int .i64 a0_3, .int .i64 a0_4, .int .i64 a0_5, .int .i64 a0_6, .int .i64 a0_7, .int .i64 a0_8], .int .i64 a1] w fun e w' => e = .returned (.tuple #[.int .i64 r1, .bool r2]) ∧ Below w.heap.size w w' := by
 have hu134 := Try.underlying134
 have HB := Aside0.mk (Below.refl w.heap.size w)
 have H : ((date_Easter.f a1).bind fun bt136 => (some (wrap64 (bt136.1 + a0_5), true))) = some (r1, r2) := h
 clear h;replace H := Option.bind_eq_some_iff.mp H
 obtain ⟨⟨t136, t137⟩, A30, H⟩ := H
 replace H : (some (wrap64 (t136 + a0_5), true)) = some (r1, r2) := H
 have A3 := Aside0.mk A30;clear A30
 simp only [Option.some.injEq, Prod.mk.injEq] at H
 obtain ⟨rfl, rfl⟩ := H
 go_enter Try.func160, Try.ntmps160
 go_wp2_with (first | ((with_reducible refine gate_dst (N := 2) rfl ?_); refine box_event ?hg (N := 2) ?hd (cs := #[.int .i64 a0_0, .int .i64 a0_1, .int .i64 a0_2, .int .i64 a0_3, .int .i64 a0_4, .int .i64 a0_5, .int .i64 a0_6, .int .i64 a0_7, .int .i64 a0_8]) (t := 134) ?hr ?_; (case hd => rfl); (case hg => rfl); (case hr => first | (go_simp; done) | (go_simp; rfl)); intro gb135 hg w4 hbox hb; have BK135 := Aside0.mk (hbox); have GW135 := bG hg; have GE135 := bG hg; replace HB := bS hb; clear hb hbox hg) | ((with_reducible refine gG 162 ?_); refine goA (some 10) Try.func162 #[.int .i64 a1] ?_; (with_reducible refine (date_Easter.calls a1 t136 t137 _ A3.out).mono ?_); rintro e w' ⟨rfl, ⟨nd, rfl⟩⟩; refine ⟨_, rfl, ?_⟩; obtain ⟨hcz5_0,hcz5_1,hcz5_2,hcz5_3,hcz5_4,hcz5_5,hcz5_6,hcz5_7,hcz5_8,hfz5_0,hfz5_1,hfz5_2,hfz5_3,hfz5_4,hfz5_5,hfz5_6,hfz5_7,hfz5_8⟩ := blk9 BK135))
 go_ret2
 exact ⟨eW, bB⟩
def cal_single_may.f (a0_0 a0_1 a0_2 a0_3 a0_4 a0_5 a0_6 a0_7 a0_8 : Int) : Option (Bool) := if (Go.bits .or .i64 (Go.bits .or .i64 (Go.bits .or .i64 (Go.bits .or .i64 (Go.bits .or .i64 (Go.bits .or .i64 a0_1 a0_3) a0_4) a0_5) a0_6) a0_7) a0_8) = 0 then ((cal_within.f a0_2 0 109572).bind fun t139 => (some t139)) else (some false)
set_option maxHeartbeats 8000000 in
set_option maxRecDepth 100000 in
theorem cal_single_may.calls (a0_0 a0_1 a0_2 a0_3 a0_4 a0_5 a0_6 a0_7 a0_8 : Int) (r : Bool) (w : World) (h : cal_single_may.f a0_0 a0_1 a0_2 a0_3 a0_4 a0_5 a0_6 a0_7 a0_8 = some r) :
  Calls Try.prog 164 #[.agg #[.int .i64 a0_0, .int .i64 a0_1, .int .i64 a0_2, .int .i64 a0_3, .int .i64 a0_4, .int .i64 a0_5, .int .i64 a0_6, .int .i64 a0_7, .int .i64 a0_8]] w fun e w' => e = .returned (.bool r) ∧ Below w.heap.size w w' := by
 have hu135 := Try.underlying135
 have HB := Aside0.mk (Below.refl w.heap.size w)
 have H : (if (Go.bits .or .i64 (Go.bits .or .i64 (Go.bits .or .i64 (Go.bits .or .i64 (Go.bits .or .i64 (Go.bits .or .i64 a0_1 a0_3) a0_4) a0_5) a0_6) a0_7) a0_8) = 0 then ((cal_within.f a0_2 0 109572).bind fun t139 => (some t139)) else (some false)) = some r := h
 clear h
 by_cases c2 : (Go.bits .or .i64 (Go.bits .or .i64 (Go.bits .or .i64 (Go.bits .or .i64 (Go.bits .or .i64 (Go.bits .or .i64 a0_1 a0_3) a0_4) a0_5) a0_6) a0_7) a0_8) = 0
 ·
  rw [if_pos c2] at H
  have c2b0 : ((Go.bits .or .i64 (Go.bits .or .i64 (Go.bits .or .i64 (Go.bits .or .i64 (Go.bits .or .i64 (Go.bits .or .i64 a0_1 a0_3) a0_4) a0_5) a0_6) a0_7) a0_8) == 0) = true := beq_iff_eq.mpr c2
  have c2b1 : ((Go.bits .or .i64 (Go.bits .or .i64 (Go.bits .or .i64 (Go.bits .or .i64 (Go.bits .or .i64 (Go.bits .or .i64 a0_1 a0_3) a0_4) a0_5) a0_6) a0_7) a0_8) != 0) = false := bne_eq_false_iff_eq.mpr c2
  clear c2;replace H := Option.bind_eq_some_iff.mp H
  obtain ⟨t139, A30, H⟩ := H
  replace H : (some t139) = some r := H
  have A3 := Aside0.mk A30;clear A30
  obtain rfl := Option.some.inj H
  go_enter Try.func164, Try.ntmps164
  go_wp2_with (first | ((with_reducible refine gate_dst (N := 1) rfl ?_); refine box_event ?hg (N := 1) ?hd (cs := #[.int .i64 a0_0, .int .i64 a0_1, .int .i64 a0_2, .int .i64 a0_3, .int .i64 a0_4, .int .i64 a0_5, .int .i64 a0_6, .int .i64 a0_7, .int .i64 a0_8]) (t := 135) ?hr ?_; (case hd => rfl); (case hg => rfl); (case hr => first | (go_simp; done) | (go_simp; rfl)); intro gb138 hg w4 hbox hb; have BK138 := Aside0.mk (hbox); have GW138 := bG hg; have GE138 := bG hg; replace HB := bS hb; clear hb hbox hg; obtain ⟨hcz5_0,hcz5_1,hcz5_2,hcz5_3,hcz5_4,hcz5_5,hcz5_6,hcz5_7,hcz5_8,hfz5_0,hfz5_1,hfz5_2,hfz5_3,hfz5_4,hfz5_5,hfz5_6,hfz5_7,hfz5_8⟩ := blk9 BK138) | (go_at_call 83; (with_reducible refine (cal_within.calls a0_2 0 109572 t139 _ A3.out).mono ?_); rintro e w' ⟨rfl, ⟨nd, rfl⟩⟩))
  go_ret
  exact ⟨eW, bB⟩
 ·
  rw [if_neg c2] at H
  have c2b0 : ((Go.bits .or .i64 (Go.bits .or .i64 (Go.bits .or .i64 (Go.bits .or .i64 (Go.bits .or .i64 (Go.bits .or .i64 a0_1 a0_3) a0_4) a0_5) a0_6) a0_7) a0_8) == 0) = false := beq_eq_false_iff_ne.mpr c2
  have c2b1 : ((Go.bits .or .i64 (Go.bits .or .i64 (Go.bits .or .i64 (Go.bits .or .i64 (Go.bits .or .i64 (Go.bits .or .i64 a0_1 a0_3) a0_4) a0_5) a0_6) a0_7) a0_8) != 0) = true := bne_iff_ne.mpr c2
  obtain rfl := Option.some.inj H
  go_enter Try.func164, Try.ntmps164
  go_wp2_with (first | ((with_reducible refine gate_dst (N := 1) rfl ?_); refine box_event ?hg (N := 1) ?hd (cs := #[.int .i64 a0_0, .int .i64 a0_1, .int .i64 a0_2, .int .i64 a0_3, .int .i64 a0_4, .int .i64 a0_5, .int .i64 a0_6, .int .i64 a0_7, .int .i64 a0_8]) (t := 135) ?hr ?_; (case hd => rfl); (case hg => rfl); (case hr => first | (go_simp; done) | (go_simp; rfl)); intro gb138 hg w6 hbox hb; have BK138 := Aside0.mk (hbox); have GW138 := bG hg; have GE138 := bG hg; replace HB := bS hb; clear hb hbox hg; obtain ⟨_,_,_,_,_,_,_,_,_,_,_,_,_,_,_,_,_,_⟩ := blk9 BK138))
  go_ret
  exact ⟨eW, bB⟩
def date_is.f (a0 : Int) : Option (Bool) := if a0 ≥ 0 then (some (decide (a0 ≤ 109572))) else (some false)
set_option maxHeartbeats 8000000 in
set_option maxRecDepth 100000 in
theorem date_is.calls (a0 : Int) (r : Bool) (w : World) (h : date_is.f a0 = some r) :
  Calls Try.prog 119 #[.int .i64 a0] w fun e w' => e = .returned (.bool r) ∧ Drawn0 w w' := by
 have H : (if a0 ≥ 0 then (some (decide (a0 ≤ 109572))) else (some false)) = some r := h
 clear h
 by_cases c2 : a0 ≥ 0
 ·
  rw [if_pos c2] at H
  have c2b0 : decide (0 ≤ a0) = true := decide_eq_true c2
  clear c2
  obtain rfl := Option.some.inj H
  go_enter Try.func119, Try.ntmps119
  go_wp2
  go_ret
  exact ⟨eS, eD⟩
 ·
  rw [if_neg c2] at H
  have c2b0 : decide (0 ≤ a0) = false := decide_eq_false c2
  clear c2
  obtain rfl := Option.some.inj H
  go_enter Try.func119, Try.ntmps119
  go_wp2
  go_ret
  exact ⟨eS, eD⟩
mutual
def date_civil.l0 : Nat → Int → Int → Option (Int × Int × Int)
  | 0, _, _ => none
  | k + 1, x0, x2 => (date_before.f (wrap64 (x2 + 1))).bind fun t140 => (if t140 ≤ x0 then (date_civil.l0 k x0 (wrap64 (x2 + 1))) else ((date_before.f x2).bind fun t141 => (date_civil.l1 k x2 1 (wrap64 (x0 - t141)))))
def date_civil.l1 : Nat → Int → Int → Int → Option (Int × Int × Int)
  | 0, _, _, _ => none
  | k + 1, x2, x3, x4 => (date_length.f x2 x3).bind fun t142 => (if x4 ≥ t142 then ((date_length.f x2 x3).bind fun t143 => (date_civil.l1 k x2 (wrap64 (x3 + 1)) (wrap64 (x4 - t143)))) else (some (x2, x3, wrap64 (x4 + 1))))
end
def date_civil.f (k : Nat) (a0 : Int) : Option (Int × Int × Int) := date_civil.l0 k a0 (wrap64 (1900 + (wrap64 (Int.tdiv a0 366))))
theorem date_civil.mono_l : ∀ k, (∀ y0 y1, LeO (date_civil.l0 k y0 y1) (date_civil.l0 (k + 1) y0 y1)) ∧ (∀ y0 y1 y2, LeO (date_civil.l1 k y0 y1 y2) (date_civil.l1 (k + 1) y0 y1 y2))
 | 0 => ⟨fun _ _ r h => by simp [date_civil.l0] at h, fun _ _ _ r h => by simp [date_civil.l1] at h⟩
 | k + 1 => by
  obtain ⟨ih0, ih1⟩ := date_civil.mono_l k
  refine ⟨?_, ?_⟩
  ·
   intro y0 y1
   unfold date_civil.l0
   exact mL
  ·
   intro y0 y1 y2
   unfold date_civil.l1
   exact mL
theorem date_civil.mono : ∀ a0 k, LeO (date_civil.f k a0) (date_civil.f (k + 1) a0) := by
 intro a0 k
 obtain ⟨ih0, ih1⟩ := date_civil.mono_l k
 unfold date_civil.f
 exact mL
set_option maxHeartbeats 8000000 in
set_option maxRecDepth 100000 in
theorem date_civil.calls (k : Nat) (a0 r1 r2 r3 : Int) (w : World) (h : date_civil.f k a0 = some (r1, r2, r3)) :
  Calls Try.prog 120 #[.int .i64 a0] w fun e w' => e = .returned (.tuple #[.int .i64 r1, .int .i64 r2, .int .i64 r3]) ∧ Drawn0 w w' := by
 have H : (date_civil.l0 k a0 (wrap64 (1900 + (wrap64 (Int.tdiv a0 366))))) = some (r1, r2, r3) := h
 clear h;have H' := Aside0.mk H;clear H
 go_enter Try.func120, Try.ntmps120
 go_wp2
 go_loopg [2] k (fun kq v2 w' => ∃ (x2_1 : Int), v2 = .int .i64 x2_1 ∧ Aside0 (date_civil.l0 kq a0 x2_1 = some (r1, r2, r3)) ∧ Aside0 (kq ≤ k) ∧ Drawn0 w w')
 case atStart => exact ⟨(wrap64 (1900 + (wrap64 (Int.tdiv a0 366)))), eS, H', ⟨Nat.le_refl _⟩, eD⟩
 case round =>
  clear H'
  obtain ⟨x2_1, rfl, HA, HK1, ⟨m1, rfl⟩⟩ := hrel
  cases gk with
  | zero => exact absurd HA.out (by simp [date_civil.l0])
  | succ k1 =>
   have H := HA.out;clear HA
   simp only [date_civil.l0] at H
   replace H := Option.bind_eq_some_iff.mp H
   obtain ⟨t140, A20, H⟩ := H
   replace H : (if t140 ≤ a0 then (date_civil.l0 k1 a0 (wrap64 (x2_1 + 1))) else ((date_before.f x2_1).bind fun t141 => (date_civil.l1 k1 x2_1 1 (wrap64 (a0 - t141))))) = some (r1, r2, r3) := H
   have A2 := Aside0.mk A20;clear A20
   by_cases c3 : t140 ≤ a0
   ·
    rw [if_pos c3] at H
    have c3b0 : decide (t140 ≤ a0) = true := decide_eq_true c3
    clear c3;have H' := Aside0.mk H;clear H
    go_wp2_with (first | ((with_reducible refine gG 136 ?_); refine goA (some 10) Try.func136 #[.int .i64 (wrap64 (x2_1 + 1))] ?_; (with_reducible refine (date_before.calls (wrap64 (x2_1 + 1)) t140 _ A2.out).mono ?_); rintro e w' ⟨rfl, ⟨nd, rfl⟩⟩; refine ⟨_, rfl, ?_⟩))
    go_roundg k1
    case measure => have := HK1.out; omega
    case rel => exact ⟨(wrap64 (x2_1 + 1)), eS, H', ⟨by have := HK1.out; omega⟩, eD⟩
   ·
    rw [if_neg c3] at H
    have c3b0 : decide (t140 ≤ a0) = false := decide_eq_false c3
    clear c3;replace H := Option.bind_eq_some_iff.mp H
    obtain ⟨t141, A40, H⟩ := H
    replace H : (date_civil.l1 k1 x2_1 1 (wrap64 (a0 - t141))) = some (r1, r2, r3) := H
    have A4 := Aside0.mk A40;clear A40;have H' := Aside0.mk H;clear H
    go_wp2_with (first | ((with_reducible refine gG 136 ?_); refine goA (some 10) Try.func136 #[.int .i64 (wrap64 (x2_1 + 1))] ?_; (with_reducible refine (date_before.calls (wrap64 (x2_1 + 1)) t140 _ A2.out).mono ?_); rintro e w' ⟨rfl, ⟨nd, rfl⟩⟩; refine ⟨_, rfl, ?_⟩) | ((with_reducible refine gG 136 ?_); refine goA (some 17) Try.func136 #[.int .i64 x2_1] ?_; (with_reducible refine (date_before.calls x2_1 t141 _ A4.out).mono ?_); rintro e w' ⟨rfl, ⟨nd, rfl⟩⟩; refine ⟨_, rfl, ?_⟩))
    go_loopg [3, 4] k1 (fun kq v3 v4 w' => ∃ (x3_2 : Int) (x4_2 : Int), v3 = .int .i64 x3_2 ∧ v4 = .int .i64 x4_2 ∧ Aside0 (date_civil.l1 kq x2_1 x3_2 x4_2 = some (r1, r2, r3)) ∧ Aside0 (kq ≤ k1) ∧ Drawn0 w w')
    case atStart => exact ⟨(1), (wrap64 (a0 - t141)), eS, eS, H', ⟨Nat.le_refl _⟩, eD⟩
    case round =>
     clear H'
     obtain ⟨x3_2, x4_2, rfl, rfl, HA, HK2, ⟨m2, rfl⟩⟩ := hrel
     cases gk with
     | zero => exact absurd HA.out (by simp [date_civil.l1])
     | succ k2 =>
      have H := HA.out;clear HA
      simp only [date_civil.l1] at H
      replace H := Option.bind_eq_some_iff.mp H
      obtain ⟨t142, A50, H⟩ := H
      replace H : (if x4_2 ≥ t142 then ((date_length.f x2_1 x3_2).bind fun t143 => (date_civil.l1 k2 x2_1 (wrap64 (x3_2 + 1)) (wrap64 (x4_2 - t143)))) else (some (x2_1, x3_2, wrap64 (x4_2 + 1)))) = some (r1, r2, r3) := H
      have A5 := Aside0.mk A50;clear A50
      by_cases c6 : x4_2 ≥ t142
      ·
       rw [if_pos c6] at H
       have c6b0 : decide (t142 ≤ x4_2) = true := decide_eq_true c6
       clear c6;replace H := Option.bind_eq_some_iff.mp H
       obtain ⟨t143, A70, H⟩ := H
       replace H : (date_civil.l1 k2 x2_1 (wrap64 (x3_2 + 1)) (wrap64 (x4_2 - t143))) = some (r1, r2, r3) := H
       have A7 := Aside0.mk A70;clear A70;have H' := Aside0.mk H;clear H
       go_wp2_with (first | ((with_reducible refine gG 122 ?_); refine goA (some 22) Try.func122 #[.int .i64 x2_1, .int .i64 x3_2] ?_; (with_reducible refine (date_length.calls x2_1 x3_2 t142 _ A5.out).mono ?_); rintro e w' ⟨rfl, ⟨nd, rfl⟩⟩; refine ⟨_, rfl, ?_⟩) | ((with_reducible refine gG 122 ?_); refine goA (some 29) Try.func122 #[.int .i64 x2_1, .int .i64 x3_2] ?_; (with_reducible refine (date_length.calls x2_1 x3_2 t143 _ A7.out).mono ?_); rintro e w' ⟨rfl, ⟨nd, rfl⟩⟩; refine ⟨_, rfl, ?_⟩))
       go_roundg k2
       case measure => have := HK1.out; have := HK2.out; omega
       case rel => exact ⟨(wrap64 (x3_2 + 1)), (wrap64 (x4_2 - t143)), eS, eS, H', ⟨by have := HK1.out; have := HK2.out; omega⟩, eD⟩
      ·
       rw [if_neg c6] at H
       have c6b0 : decide (t142 ≤ x4_2) = false := decide_eq_false c6
       clear c6
       simp only [Option.some.injEq, Prod.mk.injEq] at H
       obtain ⟨rfl, rfl, rfl⟩ := H
       go_wp2_with (first | ((with_reducible refine gG 122 ?_); refine goA (some 22) Try.func122 #[.int .i64 x2_1, .int .i64 x3_2] ?_; (with_reducible refine (date_length.calls x2_1 x3_2 t142 _ A5.out).mono ?_); rintro e w' ⟨rfl, ⟨nd, rfl⟩⟩; refine ⟨_, rfl, ?_⟩))
       go_ret3
       exact ⟨eS, eD⟩
def date_Civil.f (k : Nat) (a0 : Int) : Option (Int × Int × Int × Int) := (date_is.f a0).bind fun t144 => (if t144 = true then ((date_civil.f k a0).bind fun bt145 => (some (bt145.1, bt145.2.1, bt145.2.2, 0))) else (some (0, 0, 0, 51)))
theorem date_Civil.mono : ∀ a0 k, LeO (date_Civil.f k a0) (date_Civil.f (k + 1) a0) := by
 intro a0 k
 unfold date_Civil.f
 have m0 := @date_civil.mono
 exact mL
set_option maxHeartbeats 8000000 in
set_option maxRecDepth 100000 in
theorem date_Civil.calls (k : Nat) (a0 r1 r2 r3 r4 : Int) (w : World) (h : date_Civil.f k a0 = some (r1, r2, r3, r4)) :
  Calls Try.prog 93 #[.int .i64 a0] w fun e w' => e = .returned (.tuple #[.int .i64 r1, .int .i64 r2, .int .i64 r3, .int .i64 r4]) ∧ Drawn0 w w' := by
 have H : ((date_is.f a0).bind fun t144 => (if t144 = true then ((date_civil.f k a0).bind fun bt145 => (some (bt145.1, bt145.2.1, bt145.2.2, 0))) else (some (0, 0, 0, 51)))) = some (r1, r2, r3, r4) := h
 clear h;replace H := Option.bind_eq_some_iff.mp H
 obtain ⟨t144, A20, H⟩ := H
 replace H : (if t144 = true then ((date_civil.f k a0).bind fun bt145 => (some (bt145.1, bt145.2.1, bt145.2.2, 0))) else (some (0, 0, 0, 51))) = some (r1, r2, r3, r4) := H
 have A2 := Aside0.mk A20;clear A20
 by_cases c3 : t144 = true
 ·
  subst c3
  have H1 : ((date_civil.f k a0).bind fun bt145 => (some (bt145.1, bt145.2.1, bt145.2.2, 0))) = some (r1, r2, r3, r4) := by rw [if_pos rfl] at H; exact H
  clear H;have H := H1;clear H1;replace H := Option.bind_eq_some_iff.mp H
  obtain ⟨⟨t145, t146, t147⟩, A40, H⟩ := H
  replace H : (some (t145, t146, t147, 0)) = some (r1, r2, r3, r4) := H
  have A4 := Aside0.mk A40;clear A40
  simp only [Option.some.injEq, Prod.mk.injEq] at H
  obtain ⟨rfl, rfl, rfl, rfl⟩ := H
  go_enter Try.func93, Try.ntmps93
  go_wp2_with (first | ((with_reducible refine gG 119 ?_); refine goA (some 7) Try.func119 #[.int .i64 a0] ?_; (with_reducible refine (date_is.calls a0 true _ A2.out).mono ?_); rintro e w' ⟨rfl, ⟨nd, rfl⟩⟩; refine ⟨_, rfl, ?_⟩) | ((with_reducible refine gG 120 ?_); refine goA (some 11) Try.func120 #[.int .i64 a0] ?_; (with_reducible refine (date_civil.calls k a0 t145 t146 t147 _ A4.out).mono ?_); rintro e w' ⟨rfl, ⟨nd, rfl⟩⟩; refine ⟨_, rfl, ?_⟩))
  refine bodyPost_ret (results_list (rs := [.tmp 2, .tmp 3, .tmp 4, .tmp 5]) rfl (by simp) (.tmp (.tmp (.tmp (.tmp .nil))))) rfl ?_
  exact ⟨eS, eD⟩
 ·
  replace c3 := Bool.eq_false_iff.mpr c3;subst c3
  have H1 : (some (0, 0, 0, 51)) = some (r1, r2, r3, r4) := by rw [if_neg (show ¬ (false = true) by decide)] at H; exact H
  clear H;have H := H1;clear H1
  simp only [Option.some.injEq, Prod.mk.injEq] at H
  obtain ⟨rfl, rfl, rfl, rfl⟩ := H
  go_enter Try.func93, Try.ntmps93
  go_wp2_with (first | ((with_reducible refine gG 119 ?_); refine goA (some 7) Try.func119 #[.int .i64 a0] ?_; (with_reducible refine (date_is.calls a0 false _ A2.out).mono ?_); rintro e w' ⟨rfl, ⟨nd, rfl⟩⟩; refine ⟨_, rfl, ?_⟩))
  refine bodyPost_ret (results_list (rs := [.tmp 2, .tmp 3, .tmp 4, .tmp 5]) rfl (by simp) (.tmp (.tmp (.tmp (.tmp .nil))))) rfl ?_
  exact ⟨eS, eD⟩
def cal_single_day.f (k : Nat) (a0_0 a0_1 a0_2 a0_3 a0_4 a0_5 a0_6 a0_7 a0_8 a1 : Int) : Option (Int × Bool) := (date_Civil.f k a0_2).bind fun bt149 => (some (a0_2, (bt149.1 == a1)))
set_option maxHeartbeats 8000000 in
set_option maxRecDepth 100000 in
theorem cal_single_day.calls (k : Nat) (a0_0 a0_1 a0_2 a0_3 a0_4 a0_5 a0_6 a0_7 a0_8 a1 r1 : Int) (r2 : Bool) (w : World) (h : cal_single_day.f k a0_0 a0_1 a0_2 a0_3 a0_4 a0_5 a0_6 a0_7 a0_8 a1 = some (r1, r2)) :
  Calls Try.prog 163 #[.agg #[.int .i64 a0_0, .int .i64 a0_1, .int .i64 a0_2, .int .i64 a0_3, .int .i64 a0_4, .int .i64 a0_5, .int .i64 a0_6, .int .i64 a0_7, .int .i64 a0_8], .int .i64 a1] w fun e w' => e = .returned (.tuple #[.int .i64 r1, .bool r2]) ∧ Below w.heap.size w w' := by
 have hu135 := Try.underlying135
 have HB := Aside0.mk (Below.refl w.heap.size w)
 have H : ((date_Civil.f k a0_2).bind fun bt149 => (some (a0_2, (bt149.1 == a1)))) = some (r1, r2) := h
 clear h;replace H := Option.bind_eq_some_iff.mp H
 obtain ⟨⟨t149, t150, t151, t152⟩, A30, H⟩ := H
 replace H : (some (a0_2, (t149 == a1))) = some (r1, r2) := H
 have A3 := Aside0.mk A30;clear A30
 simp only [Option.some.injEq, Prod.mk.injEq] at H
 obtain ⟨rfl, rfl⟩ := H
 go_enter Try.func163, Try.ntmps163
 go_wp2_with (first | ((with_reducible refine gate_dst (N := 2) rfl ?_); refine box_event ?hg (N := 2) ?hd (cs := #[.int .i64 a0_0, .int .i64 a0_1, .int .i64 a0_2, .int .i64 a0_3, .int .i64 a0_4, .int .i64 a0_5, .int .i64 a0_6, .int .i64 a0_7, .int .i64 a0_8]) (t := 135) ?hr ?_; (case hd => rfl); (case hg => rfl); (case hr => first | (go_simp; done) | (go_simp; rfl)); intro gb148 hg w4 hbox hb; have BK148 := Aside0.mk (hbox); have GW148 := bG hg; have GE148 := bG hg; replace HB := bS hb; clear hb hbox hg; obtain ⟨hcz5_0,hcz5_1,hcz5_2,hcz5_3,hcz5_4,hcz5_5,hcz5_6,hcz5_7,hcz5_8,hfz5_0,hfz5_1,hfz5_2,hfz5_3,hfz5_4,hfz5_5,hfz5_6,hfz5_7,hfz5_8⟩ := blk9 BK148) | ((with_reducible refine gG 93 ?_); refine goA (some 13) Try.func93 #[.int .i64 a0_2] ?_; (with_reducible refine (date_Civil.calls k a0_2 t149 t150 t151 t152 _ A3.out).mono ?_); rintro e w' ⟨rfl, ⟨nd, rfl⟩⟩; refine ⟨_, rfl, ?_⟩))
 go_ret2
 exact ⟨eW, bB⟩
end Go.Proofs.Ytoncignjcgjhhaa.Q
namespace Go.Proofs.Ytoncignjcgjhhaa.L
open Go.RowKit Go.Proofs.YtoncignjcgjhhaaW.PrintWords Go.Proofs.YtoncignjcgjhhaaW.PrintLast Go.Proofs.YtoncignjcgjhhaaW.PrintMore
open Go.Proofs.Ytoncignjcgjhhaa.Q
variable {a0 a1 a2 a3 a4 a5 a6 a7 a8 : Int}
theorem may_single (h1 : i64 a1) (h3 : i64 a3) (h4 : i64 a4) (h5 : i64 a5) (h6 : i64 a6) (h7 : i64 a7) (h8 : i64 a8) : cal_single_may.f 4 a1 a2 a3 a4 a5 a6 a7 a8 = some (M.may ⟨4, a1, a2, a3, a4, a5, a6, a7, a8⟩) := by
 have ho : bits .or .i64 (bits .or .i64 (bits .or .i64 (bits .or .i64 (bits .or .i64 (bits .or .i64 a1 a3) a4) a5) a6) a7) a8 = 0 ↔ (((((a1 = 0 ∧ a3 = 0) ∧ a4 = 0) ∧ a5 = 0) ∧ a6 = 0) ∧ a7 = 0) ∧ a8 = 0 := by
  rw [or0 (or_i64 _ _) h8, or0 (or_i64 _ _) h7, or0 (or_i64 _ _) h6, or0 (or_i64 _ _) h5, or0 (or_i64 _ _) h4, or0 h1 h3]
 unfold cal_single_may.f M.may
 simp only [within, Option.bind_some, show ¬ ((4 : Int) = 1) from by decide, show ¬ ((4 : Int) = 2) from by decide, show ¬ ((4 : Int) = 3) from by decide, if_true, if_false]
 by_cases hz : (((((a1 = 0 ∧ a3 = 0) ∧ a4 = 0) ∧ a5 = 0) ∧ a6 = 0) ∧ a7 = 0) ∧ a8 = 0
 ·
  rw [if_pos (ho.2 hz)]; congr 1; rw [decide_eq_decide]; omega
 ·
  rw [if_neg (fun e => hz (ho.1 e))]; congr 1; symm; rw [decide_eq_false_iff_not]; omega
theorem civil_l1 (y d : Int) (h0 : 0 ≤ d) (h1 : d < 365 + M.lp y) : ∀ (f : Nat) (m : Int), 1 ≤ m → m ≤ M.monOf y d → M.monOf y d - m = f →
  Ev (fun k => date_civil.l1 k y m (d - M.cum y m)) (y, M.monOf y d, d - M.cum y (M.monOf y d) + 1)
 | 0, m, a, b, c => by
  obtain ⟨p, q, r, s⟩ := M.monOf_spec y d h0 h1
  have e : m = M.monOf y d := by omega
  have hc := M.cum_succ y (M.monOf y d) p q
  have hg := M.cum_rng y (M.monOf y d)
  have hl := M.lp_01 y
  refine Ev.step (f := fun _ => some (y, M.monOf y d, d - M.cum y (M.monOf y d) + 1)) (fun k => ?_) (Ev.now _)
  rw [e]
  simp only [date_civil.l1, length, Option.bind_some]
  rw [if_neg (by omega), w64 (by omega) (by omega)]
 | f + 1, m, a, b, c => by
  obtain ⟨p, q, r, s⟩ := M.monOf_spec y d h0 h1
  have ih := civil_l1 y d h0 h1 f (m + 1) (by omega) (by omega) (by omega)
  have hc := M.cum_succ y m a (by omega)
  have hg := M.cum_rng y m
  have hle := M.cum_le y (show 1 ≤ m + 1 by omega) (show m + 1 ≤ M.monOf y d by omega) (by omega)
  have hl := M.lp_01 y;have hml := M.mlen_rng y m
  refine Ev.step (fun k => ?_) ih
  simp only [date_civil.l1, length, Option.bind_some]
  rw [if_pos (by omega), w64 (by omega) (by omega), w64 (by omega) (by omega), show d - M.cum y m - M.mlen y m = d - M.cum y (m + 1) from by omega]
theorem civil_l0 (n : Int) (h0 : 0 ≤ n) (h1 : n ≤ 109572) : ∀ (f : Nat) (y : Int), 1900 ≤ y → y ≤ M.yearOf n → M.yearOf n - y = f →
  Ev (fun k => date_civil.l0 k n y) (M.civY n, M.civM n, M.civD n)
 | 0, y, a, b, c => by
  obtain ⟨p, q, r, s⟩ := M.yearOf_spec n h0 h1
  have e : y = M.yearOf n := by omega
  have hs := M.before_succ (M.yearOf n)
  have hb := before_rng (M.yearOf n) (by omega) (by omega)
  obtain ⟨p2, q2, r2, s2⟩ := M.monOf_spec (M.yearOf n) (n - M.before (M.yearOf n)) (by omega) (by omega)
  have h := civil_l1 (M.yearOf n) (n - M.before (M.yearOf n)) (by omega) (by omega) (M.monOf (M.yearOf n) (n - M.before (M.yearOf n)) - 1).toNat 1 (by omega) p2 (by omega)
  rw [M.cum_1, Int.sub_zero] at h
  refine Ev.step (fun k => ?_) h
  rw [e]
  simp only [date_civil.l0]
  rw [w64 (by omega) (by omega), before _ (by omega) (by omega), before _ (by omega) (by omega)]
  simp only [Option.bind_some]
  rw [if_neg (by omega), w64 (by omega) (by omega)]
 | f + 1, y, a, b, c => by
  obtain ⟨p, q, r, s⟩ := M.yearOf_spec n h0 h1
  have ih := civil_l0 n h0 h1 f (y + 1) (by omega) (by omega) (by omega)
  have hle := M.before_le (show y + 1 ≤ M.yearOf n by omega)
  refine Ev.step (fun k => ?_) ih
  simp only [date_civil.l0]
  rw [w64 (by omega) (by omega), before _ (by omega) (by omega)]
  simp only [Option.bind_some]
  rw [if_pos (by omega)]
theorem civil (n : Int) (h0 : 0 ≤ n) (h1 : n ≤ 109572) : Ev (fun k => date_civil.f k n) (M.civY n, M.civM n, M.civD n) := by
 have hy : 1900 + n / 366 ≤ M.yearOf n := by unfold M.yearOf; split <;> omega
 have h := civil_l0 n h0 h1 (M.yearOf n - (1900 + n / 366)).toNat (1900 + n / 366) (by omega) hy (by omega)
 refine Ev.congr (fun k => ?_) h
 unfold date_civil.f
 rw [td h0, w64 (x := n / 366) (by omega) (by omega), w64 (by omega) (by omega)]
theorem dis (n : Int) : date_is.f n = some (decide (0 ≤ n ∧ n ≤ 109572)) := by
 unfold date_is.f
 split
 ·
  congr 1; rw [decide_eq_decide]; omega
 ·
  congr 1; symm; rw [decide_eq_false_iff_not]; omega
theorem Civil (n : Int) : Ev (fun k => date_Civil.f k n) (if 0 ≤ n ∧ n ≤ 109572 then (M.civY n, M.civM n, M.civD n, 0) else (0, 0, 0, 51)) := by
 by_cases h : 0 ≤ n ∧ n ≤ 109572
 ·
  rw [if_pos h]
  have hd2 := Ev.bind (f := fun _ (t : Int × Int × Int) => some (t.1, t.2.1, t.2.2, (0 : Int))) (civil n h.1 h.2) (Ev.now _)
  refine Ev.congr (fun k => ?_) hd2
  unfold date_Civil.f
  rw [dis]
  simp [h]
 ·
  rw [if_neg h]
  refine Ev.congr (fun k => ?_) (Ev.now _)
  unfold date_Civil.f
  rw [dis]
  simp only [Option.bind_some]
  rw [if_neg (by simpa using h)]
theorem day_fixed (y : Int) (h : M.may ⟨1, a1, a2, a3, a4, a5, a6, a7, a8⟩ = true) (h0 : 1900 ≤ y) (h1 : y ≤ 2199) :
  Ev (fun k => cal_fixed_day.f k 1 a1 a2 a3 a4 a5 a6 a7 a8 y) (match M.rday ⟨1, a1, a2, a3, a4, a5, a6, a7, a8⟩ y with | some x => (x, true) | none => (0, false)) := by
 have hm : 1 ≤ a1 ∧ a1 ≤ 12 ∧ 1 ≤ a2 := by simp [M.may] at h; omega
 have ho := Ev.bind (f := fun _ (t : Int × Int) => some (t.1, (t.2 == 0))) (Of y a1 a2) (Ev.now _)
 unfold M.rday
 simp only [if_true]
 by_cases hd : a2 ≤ M.mlen y a1
 ·
  rw [if_pos hd]
  rw [if_pos (show M.isDate y a1 a2 from ⟨h0, h1, hm.1, hm.2.1, hm.2.2, hd⟩)] at ho
  exact ho
 ·
  rw [if_neg hd]
  rw [if_neg (show ¬ M.isDate y a1 a2 from fun e => hd e.2.2.2.2.2)] at ho
  exact ho
theorem day_nth (y : Int) (h : M.may ⟨2, a1, a2, a3, a4, a5, a6, a7, a8⟩ = true) (h0 : 1900 ≤ y) (h1 : y ≤ 2199) :
  Ev (fun k => cal_nth_day.f k 2 a1 a2 a3 a4 a5 a6 a7 a8 y) (match M.rday ⟨2, a1, a2, a3, a4, a5, a6, a7, a8⟩ y with | some x => (x, true) | none => (0, false)) := by
 have hm : 1 ≤ a1 ∧ a1 ≤ 12 ∧ 0 ≤ a4 ∧ a4 ≤ 6 ∧ 1 ≤ a3 ∧ a3 ≤ 5 := by simp [M.may] at h; omega
 have hl := M.mlen_rng y a1
 have hdt : M.isDate y a1 1 := ⟨h0, h1, hm.1, hm.2.1, by omega, by omega⟩
 have hr := M.day_rng hdt;have ho := Of y a1 1
 rw [if_pos hdt] at ho
 have e : M.rday ⟨2, a1, a2, a3, a4, a5, a6, a7, a8⟩ y = some (M.nthDay y a1 a4 a3) := rfl
 rw [e]
 refine Ev.congr (fun k => rfl) (Ev.bind (f := _) ho ?_)
 refine Ev.congr (fun k => ?_) (Ev.now _)
 rw [Length, if_pos ⟨h0, h1, hm.1, hm.2.1⟩]
 simp only [Option.bind_some]
 generalize hF : M.dayOf y a1 1 = F at *
 rw [tm (a := F) (b := 7) (by omega)]
 rw [w64 (x := a4 - F % 7) (by omega) (by omega), w64 (x := a4 - F % 7 + 7) (by omega) (by omega), tm (by omega), w64 (x := a3 - 1) (by omega) (by omega), w64 (x := 7 * (a3 - 1)) (by omega) (by omega), w64 (x := (a4 - F % 7 + 7) % 7 + 7 * (a3 - 1)) (by omega) (by omega),
  w64 (x := (a4 - F % 7 + 7) % 7 + 7 * (a3 - 1) - 7) (by omega) (by omega), w64 (x := F + ((a4 - F % 7 + 7) % 7 + 7 * (a3 - 1) - 7)) (by omega) (by omega), w64 (x := F + ((a4 - F % 7 + 7) % 7 + 7 * (a3 - 1))) (by omega) (by omega)]
 unfold M.nthDay
 simp only [hF]
 split <;> rfl
theorem day_easter (y : Int) (h : M.may ⟨3, a1, a2, a3, a4, a5, a6, a7, a8⟩ = true) (h0 : 1900 ≤ y) (h1 : y ≤ 2199) :
  cal_easter_day.f 3 a1 a2 a3 a4 a5 a6 a7 a8 y = some (match M.rday ⟨3, a1, a2, a3, a4, a5, a6, a7, a8⟩ y with | some x => (x, true) | none => (0, false)) := by
 have hm : -100 ≤ a5 ∧ a5 ≤ 100 := by simp [M.may] at h; omega
 obtain ⟨a, b, c, d⟩ := M.easter_spec y h0 h1
 have hr := M.day_rng a
 have e : M.rday ⟨3, a1, a2, a3, a4, a5, a6, a7, a8⟩ y = some (M.easterDay y + a5) := rfl
 have hr2 : 0 ≤ M.easterDay y ∧ M.easterDay y ≤ 109572 := ⟨hr.1, hr.2.1⟩
 rw [e]
 unfold cal_easter_day.f date_Easter.f H.easterF
 rw [if_pos ⟨h0, h1⟩]
 simp only [Option.bind_some]
 rw [w64 (by omega) (by omega)]
theorem day_single (y : Int) (h : M.may ⟨4, a1, a2, a3, a4, a5, a6, a7, a8⟩ = true) :
  Ev (fun k => cal_single_day.f k 4 a1 a2 a3 a4 a5 a6 a7 a8 y) (a2, decide (M.civY a2 = y)) := by
 have hm : 0 ≤ a2 ∧ a2 ≤ 109572 := by simp [M.may] at h; omega
 have hc := Civil a2
 rw [if_pos hm] at hc
 have := Ev.bind (f := fun _ (t : Int × Int × Int × Int) => some (a2, (t.1 == y))) hc (Ev.now _)
 refine Ev.congr (fun k => rfl) ?_
 have e : (M.civY a2 == y) = decide (M.civY a2 = y) := rfl
 rw [← e]; exact this
end Go.Proofs.Ytoncignjcgjhhaa.L
