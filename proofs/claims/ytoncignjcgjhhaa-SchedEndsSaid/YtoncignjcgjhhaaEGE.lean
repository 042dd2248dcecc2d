/- Contracts and facts of functions of the program (calendar, dates and their documents), joined in one text by a program of this session. No condition but what each theorem states. -/
import Derived.Test.YtoncignjcgjhhaaEGA
import Derived.Test.YtoncignjcgjhhaaEGB
import Derived.Test.YtoncignjcgjhhaaEGC
set_option linter.unusedVariables false
set_option linter.unusedSimpArgs false
namespace Go.Proofs.Ytoncignjcgjhhaa.Q
open Go.RowKit Go.Proofs.YtoncignjcgjhhaaW.PrintWords Go.Proofs.YtoncignjcgjhhaaW.PrintLast Go.Proofs.YtoncignjcgjhhaaW.PrintMore
attribute [local go_sem] max2_int min2_int max_two min_two max_three min_three max_four min_four   -- for this text's walks alone
def date_Months.j0 : Nat → Int → Int → Bool → Bool → Option (Int × Int)
  | 0, _, _, _, _ => none
  | k + 1, x0, x1, x2, x24 => if x24 = true then (some (0, 51)) else ((date_civil.f k x0).bind fun bt721 => ((date_length.f bt721.1 bt721.2.1).bind fun t724 => ((date_month.f (wrap64 (Int.tdiv (wrap64 ((wrap64 ((wrap64 ((wrap64 (12 * bt721.1)) + bt721.2.1)) - 1)) + x1)) 12)) (wrap64 ((Int.tmod (wrap64 ((wrap64 ((wrap64 ((wrap64 (12 * bt721.1)) + bt721.2.1)) - 1)) + x1)) 12) + 1))).bind fun t725 => (if t725 = true then ((date_length.f (wrap64 (Int.tdiv (wrap64 ((wrap64 ((wrap64 ((wrap64 (12 * bt721.1)) + bt721.2.1)) - 1)) + x1)) 12)) (wrap64 ((Int.tmod (wrap64 ((wrap64 ((wrap64 ((wrap64 (12 * bt721.1)) + bt721.2.1)) - 1)) + x1)) 12) + 1))).bind fun t726 => (if bt721.2.2 > t726 then ((date_day.f k (wrap64 (Int.tdiv (wrap64 ((wrap64 ((wrap64 ((wrap64 (12 * bt721.1)) + bt721.2.1)) - 1)) + x1)) 12)) (wrap64 ((Int.tmod (wrap64 ((wrap64 ((wrap64 ((wrap64 (12 * bt721.1)) + bt721.2.1)) - 1)) + x1)) 12) + 1)) t726).bind fun t727 => (some (t727, 0))) else (if x2 = true then (if bt721.2.2 = t724 then ((date_day.f k (wrap64 (Int.tdiv (wrap64 ((wrap64 ((wrap64 ((wrap64 (12 * bt721.1)) + bt721.2.1)) - 1)) + x1)) 12)) (wrap64 ((Int.tmod (wrap64 ((wrap64 ((wrap64 ((wrap64 (12 * bt721.1)) + bt721.2.1)) - 1)) + x1)) 12) + 1)) t726).bind fun t728 => (some (t728, 0))) else ((date_day.f k (wrap64 (Int.tdiv (wrap64 ((wrap64 ((wrap64 ((wrap64 (12 * bt721.1)) + bt721.2.1)) - 1)) + x1)) 12)) (wrap64 ((Int.tmod (wrap64 ((wrap64 ((wrap64 ((wrap64 (12 * bt721.1)) + bt721.2.1)) - 1)) + x1)) 12) + 1)) bt721.2.2).bind fun t729 => (some (t729, 0)))) else ((date_day.f k (wrap64 (Int.tdiv (wrap64 ((wrap64 ((wrap64 ((wrap64 (12 * bt721.1)) + bt721.2.1)) - 1)) + x1)) 12)) (wrap64 ((Int.tmod (wrap64 ((wrap64 ((wrap64 ((wrap64 (12 * bt721.1)) + bt721.2.1)) - 1)) + x1)) 12) + 1)) bt721.2.2).bind fun t730 => (some (t730, 0)))))) else (some (0, 51))))))
def date_Months.f (k : Nat) (a0 : Int) (a1 : Int) (a2 : Bool) : Option (Int × Int) := (date_is.f a0).bind fun t720 => (if t720 = true then (if a1 < (-4000) then (date_Months.j0 k a0 a1 a2 true) else (date_Months.j0 k a0 a1 a2 (decide (a1 > 4000)))) else (date_Months.j0 k a0 a1 a2 true))
theorem date_Months.mono_l : ∀ k, (∀ y0 y1 y2 y3, LeO (date_Months.j0 k y0 y1 y2 y3) (date_Months.j0 (k + 1) y0 y1 y2 y3))
 | 0 => fun _ _ _ _ r h => by simp [date_Months.j0] at h
 | k + 1 => by
  have ih0 := date_Months.mono_l k
  ·
   intro y0 y1 y2 y3
   unfold date_Months.j0
   repeat' first
   | (with_reducible exact ih0 _ _ _ _)
   | (with_reducible exact date_civil.mono _ _)
   | (with_reducible exact date_day.mono _ _ _ _)
   | (with_reducible exact LeO.refl _)
   | (with_reducible exact LeO.none _)
   | (with_reducible refine LeO.ite ?_ ?_)
   | (with_reducible refine LeO.bind ?_ (fun _ => ?_))
   | exact ih0 _ _ _ _
   | exact date_civil.mono _ _
   | exact date_day.mono _ _ _ _
   | exact LeO.none _
   | refine LeO.ite ?_ ?_
   | refine LeO.bind ?_ (fun _ => ?_)
theorem date_Months.mono : ∀ a0 a1 a2 k, LeO (date_Months.f k a0 a1 a2) (date_Months.f (k + 1) a0 a1 a2) := by
 intro a0 a1 a2 k
 have ih0 := date_Months.mono_l k
 unfold date_Months.f
 repeat' first
   | (with_reducible exact ih0 _ _ _ _)
   | (with_reducible exact date_civil.mono _ _)
   | (with_reducible exact date_day.mono _ _ _ _)
   | (with_reducible exact LeO.refl _)
   | (with_reducible exact LeO.none _)
   | (with_reducible refine LeO.ite ?_ ?_)
   | (with_reducible refine LeO.bind ?_ (fun _ => ?_))
   | exact ih0 _ _ _ _
   | exact date_civil.mono _ _
   | exact date_day.mono _ _ _ _
   | exact LeO.none _
   | refine LeO.ite ?_ ?_
   | refine LeO.bind ?_ (fun _ => ?_)
set_option maxHeartbeats 8000000 in
set_option maxRecDepth 100000 in
theorem date_Months.calls (k : Nat) (a0 : Int) (a1 : Int) (a2 : Bool) (r1 : Int) (r2 : Int) (w : World) (h : date_Months.f k a0 a1 a2 = some (r1, r2)) :
  Calls Try.prog 112 #[.int .i64 a0, .int .i64 a1, .bool a2] w fun e w' => e = .returned (.tuple #[.int .i64 r1, .int .i64 r2]) ∧ Drawn0 w w' := by
 have H : ((date_is.f a0).bind fun t720 => (if t720 = true then (if a1 < (-4000) then (date_Months.j0 k a0 a1 a2 true) else (date_Months.j0 k a0 a1 a2 (decide (a1 > 4000)))) else (date_Months.j0 k a0 a1 a2 true))) = some (r1, r2) := h
 clear h;have HC4 := Aside0.mk H;clear H
 go_enter Try.func112, Try.ntmps112
 go_upto_region 1 with (fail)
 go_cut [24] (fun v24 wc => ∃ (kq : Nat) (x24_3 : Bool), v24 = .bool x24_3 ∧ Aside0 (date_Months.j0 kq a0 a1 a2 x24_3 = some (r1, r2)) ∧ Aside0 (kq ≤ k) ∧ Drawn0 w wc)
 case first =>
  have H := HC4.out;clear HC4;replace H := Option.bind_eq_some_iff.mp H
  obtain ⟨t720, A50, H⟩ := H
  replace H : (if t720 = true then (if a1 < (-4000) then (date_Months.j0 k a0 a1 a2 true) else (date_Months.j0 k a0 a1 a2 (decide (a1 > 4000)))) else (date_Months.j0 k a0 a1 a2 true)) = some (r1, r2) := H
  have A5 := Aside0.mk A50;clear A50
  by_cases c6 : t720 = true
  ·
   subst c6
   have H1 : (if a1 < (-4000) then (date_Months.j0 k a0 a1 a2 true) else (date_Months.j0 k a0 a1 a2 (decide (a1 > 4000)))) = some (r1, r2) := by rw [if_pos rfl] at H; exact H
   clear H;have H := H1;clear H1
   by_cases c7 : a1 < (-4000)
   ·
    rw [if_pos c7] at H
    have c7b0 : decide (a1 < (-4000)) = true := decide_eq_true c7
    clear c7
    (first | rw [c7b0] | (simp only [i64_w, i32_w]; rw [c7b0]) | skip)
    have H' := Aside0.mk H;clear H
    go_wp2_with (first | ((with_reducible refine gate_callee (f := 119) rfl ?_); refine goesL_ (some 15) rfl rfl Try.func119 (by kernel_rfl) rfl #[.int .i64 a0] rfl (by (try simp only [List.map_toArray, List.map_cons, List.map_nil]); first | done | rfl | (simp only [List.length_drop, List.length_take]; rfl)) ?_; (with_reducible refine (date_is.calls a0 true _ A5.out).mono ?_); rintro e w' ⟨rfl, ⟨nd, rfl⟩⟩; refine ⟨_, rfl, ?_⟩))
    go_meet
    case rel => exact ⟨_, (true), (by first | rfl | (simp; done) | (simp [*]; done)), H', ⟨by first | omega | exact Nat.le_refl _⟩, by repeat (first | exact Drawn0.refl _ | apply Drawn0.step)⟩
   ·
    rw [if_neg c7] at H
    have c7b0 : decide (a1 < (-4000)) = false := decide_eq_false c7
    clear c7
    (first | rw [c7b0] | (simp only [i64_w, i32_w]; rw [c7b0]) | skip)
    have H' := Aside0.mk H;clear H
    go_wp2_with (first | ((with_reducible refine gate_callee (f := 119) rfl ?_); refine goesL_ (some 15) rfl rfl Try.func119 (by kernel_rfl) rfl #[.int .i64 a0] rfl (by (try simp only [List.map_toArray, List.map_cons, List.map_nil]); first | done | rfl | (simp only [List.length_drop, List.length_take]; rfl)) ?_; (with_reducible refine (date_is.calls a0 true _ A5.out).mono ?_); rintro e w' ⟨rfl, ⟨nd, rfl⟩⟩; refine ⟨_, rfl, ?_⟩))
    go_meet
    case rel => exact ⟨_, (decide (a1 > 4000)), (by first | rfl | (simp; done) | (simp [*]; done)), H', ⟨by first | omega | exact Nat.le_refl _⟩, by repeat (first | exact Drawn0.refl _ | apply Drawn0.step)⟩
  ·
   replace c6 := Bool.eq_false_iff.mpr c6;subst c6
   have H1 : (date_Months.j0 k a0 a1 a2 true) = some (r1, r2) := by rw [if_neg (show ¬ (false = true) by decide)] at H; exact H
   clear H;have H := H1;clear H1;have H' := Aside0.mk H;clear H
   go_wp2_with (first | ((with_reducible refine gate_callee (f := 119) rfl ?_); refine goesL_ (some 15) rfl rfl Try.func119 (by kernel_rfl) rfl #[.int .i64 a0] rfl (by (try simp only [List.map_toArray, List.map_cons, List.map_nil]); first | done | rfl | (simp only [List.length_drop, List.length_take]; rfl)) ?_; (with_reducible refine (date_is.calls a0 false _ A5.out).mono ?_); rintro e w' ⟨rfl, ⟨nd, rfl⟩⟩; refine ⟨_, rfl, ?_⟩))
   go_meet
   case rel => exact ⟨_, (true), (by first | rfl | (simp; done) | (simp [*]; done)), H', ⟨by first | omega | exact Nat.le_refl _⟩, by repeat (first | exact Drawn0.refl _ | apply Drawn0.step)⟩
 case rest =>
  clear HC4
  obtain ⟨kq, x24_3, rfl, HA, HJ3, ⟨mc3, rfl⟩⟩ := hcut
  cases kq with
  | zero => exact absurd HA.out (by simp [date_Months.j0])
  | succ kj3 =>
   have H := HA.out;clear HA
   simp only [date_Months.j0] at H
   by_cases c8 : x24_3 = true
   ·
    subst c8
    have H1 : (some (0, 51)) = some (r1, r2) := by rw [if_pos rfl] at H; exact H
    clear H;have H := H1;clear H1
    simp only [Option.some.injEq, Prod.mk.injEq] at H
    obtain ⟨rfl, rfl⟩ := H
    go_wp2
    go_ret2
    exact ⟨by first | rfl | (simp; done) | (simp [*]; done), by repeat (first | exact Drawn0.refl _ | apply Drawn0.step)⟩
   ·
    replace c8 := Bool.eq_false_iff.mpr c8;subst c8
    have H1 : ((date_civil.f kj3 a0).bind fun bt721 => ((date_length.f bt721.1 bt721.2.1).bind fun t724 => ((date_month.f (wrap64 (Int.tdiv (wrap64 ((wrap64 ((wrap64 ((wrap64 (12 * bt721.1)) + bt721.2.1)) - 1)) + a1)) 12)) (wrap64 ((Int.tmod (wrap64 ((wrap64 ((wrap64 ((wrap64 (12 * bt721.1)) + bt721.2.1)) - 1)) + a1)) 12) + 1))).bind fun t725 => (if t725 = true then ((date_length.f (wrap64 (Int.tdiv (wrap64 ((wrap64 ((wrap64 ((wrap64 (12 * bt721.1)) + bt721.2.1)) - 1)) + a1)) 12)) (wrap64 ((Int.tmod (wrap64 ((wrap64 ((wrap64 ((wrap64 (12 * bt721.1)) + bt721.2.1)) - 1)) + a1)) 12) + 1))).bind fun t726 => (if bt721.2.2 > t726 then ((date_day.f kj3 (wrap64 (Int.tdiv (wrap64 ((wrap64 ((wrap64 ((wrap64 (12 * bt721.1)) + bt721.2.1)) - 1)) + a1)) 12)) (wrap64 ((Int.tmod (wrap64 ((wrap64 ((wrap64 ((wrap64 (12 * bt721.1)) + bt721.2.1)) - 1)) + a1)) 12) + 1)) t726).bind fun t727 => (some (t727, 0))) else (if a2 = true then (if bt721.2.2 = t724 then ((date_day.f kj3 (wrap64 (Int.tdiv (wrap64 ((wrap64 ((wrap64 ((wrap64 (12 * bt721.1)) + bt721.2.1)) - 1)) + a1)) 12)) (wrap64 ((Int.tmod (wrap64 ((wrap64 ((wrap64 ((wrap64 (12 * bt721.1)) + bt721.2.1)) - 1)) + a1)) 12) + 1)) t726).bind fun t728 => (some (t728, 0))) else ((date_day.f kj3 (wrap64 (Int.tdiv (wrap64 ((wrap64 ((wrap64 ((wrap64 (12 * bt721.1)) + bt721.2.1)) - 1)) + a1)) 12)) (wrap64 ((Int.tmod (wrap64 ((wrap64 ((wrap64 ((wrap64 (12 * bt721.1)) + bt721.2.1)) - 1)) + a1)) 12) + 1)) bt721.2.2).bind fun t729 => (some (t729, 0)))) else ((date_day.f kj3 (wrap64 (Int.tdiv (wrap64 ((wrap64 ((wrap64 ((wrap64 (12 * bt721.1)) + bt721.2.1)) - 1)) + a1)) 12)) (wrap64 ((Int.tmod (wrap64 ((wrap64 ((wrap64 ((wrap64 (12 * bt721.1)) + bt721.2.1)) - 1)) + a1)) 12) + 1)) bt721.2.2).bind fun t730 => (some (t730, 0)))))) else (some (0, 51)))))) = some (r1, r2) := by rw [if_neg (show ¬ (false = true) by decide)] at H; exact H
    clear H;have H := H1;clear H1;replace H := Option.bind_eq_some_iff.mp H
    obtain ⟨⟨t721, t722, t723⟩, A90, H⟩ := H
    replace H : ((date_length.f t721 t722).bind fun t724 => ((date_month.f (wrap64 (Int.tdiv (wrap64 ((wrap64 ((wrap64 ((wrap64 (12 * t721)) + t722)) - 1)) + a1)) 12)) (wrap64 ((Int.tmod (wrap64 ((wrap64 ((wrap64 ((wrap64 (12 * t721)) + t722)) - 1)) + a1)) 12) + 1))).bind fun t725 => (if t725 = true then ((date_length.f (wrap64 (Int.tdiv (wrap64 ((wrap64 ((wrap64 ((wrap64 (12 * t721)) + t722)) - 1)) + a1)) 12)) (wrap64 ((Int.tmod (wrap64 ((wrap64 ((wrap64 ((wrap64 (12 * t721)) + t722)) - 1)) + a1)) 12) + 1))).bind fun t726 => (if t723 > t726 then ((date_day.f kj3 (wrap64 (Int.tdiv (wrap64 ((wrap64 ((wrap64 ((wrap64 (12 * t721)) + t722)) - 1)) + a1)) 12)) (wrap64 ((Int.tmod (wrap64 ((wrap64 ((wrap64 ((wrap64 (12 * t721)) + t722)) - 1)) + a1)) 12) + 1)) t726).bind fun t727 => (some (t727, 0))) else (if a2 = true then (if t723 = t724 then ((date_day.f kj3 (wrap64 (Int.tdiv (wrap64 ((wrap64 ((wrap64 ((wrap64 (12 * t721)) + t722)) - 1)) + a1)) 12)) (wrap64 ((Int.tmod (wrap64 ((wrap64 ((wrap64 ((wrap64 (12 * t721)) + t722)) - 1)) + a1)) 12) + 1)) t726).bind fun t728 => (some (t728, 0))) else ((date_day.f kj3 (wrap64 (Int.tdiv (wrap64 ((wrap64 ((wrap64 ((wrap64 (12 * t721)) + t722)) - 1)) + a1)) 12)) (wrap64 ((Int.tmod (wrap64 ((wrap64 ((wrap64 ((wrap64 (12 * t721)) + t722)) - 1)) + a1)) 12) + 1)) t723).bind fun t729 => (some (t729, 0)))) else ((date_day.f kj3 (wrap64 (Int.tdiv (wrap64 ((wrap64 ((wrap64 ((wrap64 (12 * t721)) + t722)) - 1)) + a1)) 12)) (wrap64 ((Int.tmod (wrap64 ((wrap64 ((wrap64 ((wrap64 (12 * t721)) + t722)) - 1)) + a1)) 12) + 1)) t723).bind fun t730 => (some (t730, 0)))))) else (some (0, 51))))) = some (r1, r2) := H
    have A9 := Aside0.mk A90;clear A90;replace H := Option.bind_eq_some_iff.mp H
    obtain ⟨t724, A100, H⟩ := H
    replace H : ((date_month.f (wrap64 (Int.tdiv (wrap64 ((wrap64 ((wrap64 ((wrap64 (12 * t721)) + t722)) - 1)) + a1)) 12)) (wrap64 ((Int.tmod (wrap64 ((wrap64 ((wrap64 ((wrap64 (12 * t721)) + t722)) - 1)) + a1)) 12) + 1))).bind fun t725 => (if t725 = true then ((date_length.f (wrap64 (Int.tdiv (wrap64 ((wrap64 ((wrap64 ((wrap64 (12 * t721)) + t722)) - 1)) + a1)) 12)) (wrap64 ((Int.tmod (wrap64 ((wrap64 ((wrap64 ((wrap64 (12 * t721)) + t722)) - 1)) + a1)) 12) + 1))).bind fun t726 => (if t723 > t726 then ((date_day.f kj3 (wrap64 (Int.tdiv (wrap64 ((wrap64 ((wrap64 ((wrap64 (12 * t721)) + t722)) - 1)) + a1)) 12)) (wrap64 ((Int.tmod (wrap64 ((wrap64 ((wrap64 ((wrap64 (12 * t721)) + t722)) - 1)) + a1)) 12) + 1)) t726).bind fun t727 => (some (t727, 0))) else (if a2 = true then (if t723 = t724 then ((date_day.f kj3 (wrap64 (Int.tdiv (wrap64 ((wrap64 ((wrap64 ((wrap64 (12 * t721)) + t722)) - 1)) + a1)) 12)) (wrap64 ((Int.tmod (wrap64 ((wrap64 ((wrap64 ((wrap64 (12 * t721)) + t722)) - 1)) + a1)) 12) + 1)) t726).bind fun t728 => (some (t728, 0))) else ((date_day.f kj3 (wrap64 (Int.tdiv (wrap64 ((wrap64 ((wrap64 ((wrap64 (12 * t721)) + t722)) - 1)) + a1)) 12)) (wrap64 ((Int.tmod (wrap64 ((wrap64 ((wrap64 ((wrap64 (12 * t721)) + t722)) - 1)) + a1)) 12) + 1)) t723).bind fun t729 => (some (t729, 0)))) else ((date_day.f kj3 (wrap64 (Int.tdiv (wrap64 ((wrap64 ((wrap64 ((wrap64 (12 * t721)) + t722)) - 1)) + a1)) 12)) (wrap64 ((Int.tmod (wrap64 ((wrap64 ((wrap64 ((wrap64 (12 * t721)) + t722)) - 1)) + a1)) 12) + 1)) t723).bind fun t730 => (some (t730, 0)))))) else (some (0, 51)))) = some (r1, r2) := H
    have A10 := Aside0.mk A100;clear A100;replace H := Option.bind_eq_some_iff.mp H
    obtain ⟨t725, A110, H⟩ := H
    replace H : (if t725 = true then ((date_length.f (wrap64 (Int.tdiv (wrap64 ((wrap64 ((wrap64 ((wrap64 (12 * t721)) + t722)) - 1)) + a1)) 12)) (wrap64 ((Int.tmod (wrap64 ((wrap64 ((wrap64 ((wrap64 (12 * t721)) + t722)) - 1)) + a1)) 12) + 1))).bind fun t726 => (if t723 > t726 then ((date_day.f kj3 (wrap64 (Int.tdiv (wrap64 ((wrap64 ((wrap64 ((wrap64 (12 * t721)) + t722)) - 1)) + a1)) 12)) (wrap64 ((Int.tmod (wrap64 ((wrap64 ((wrap64 ((wrap64 (12 * t721)) + t722)) - 1)) + a1)) 12) + 1)) t726).bind fun t727 => (some (t727, 0))) else (if a2 = true then (if t723 = t724 then ((date_day.f kj3 (wrap64 (Int.tdiv (wrap64 ((wrap64 ((wrap64 ((wrap64 (12 * t721)) + t722)) - 1)) + a1)) 12)) (wrap64 ((Int.tmod (wrap64 ((wrap64 ((wrap64 ((wrap64 (12 * t721)) + t722)) - 1)) + a1)) 12) + 1)) t726).bind fun t728 => (some (t728, 0))) else ((date_day.f kj3 (wrap64 (Int.tdiv (wrap64 ((wrap64 ((wrap64 ((wrap64 (12 * t721)) + t722)) - 1)) + a1)) 12)) (wrap64 ((Int.tmod (wrap64 ((wrap64 ((wrap64 ((wrap64 (12 * t721)) + t722)) - 1)) + a1)) 12) + 1)) t723).bind fun t729 => (some (t729, 0)))) else ((date_day.f kj3 (wrap64 (Int.tdiv (wrap64 ((wrap64 ((wrap64 ((wrap64 (12 * t721)) + t722)) - 1)) + a1)) 12)) (wrap64 ((Int.tmod (wrap64 ((wrap64 ((wrap64 ((wrap64 (12 * t721)) + t722)) - 1)) + a1)) 12) + 1)) t723).bind fun t730 => (some (t730, 0)))))) else (some (0, 51))) = some (r1, r2) := H
    have A11 := Aside0.mk A110;clear A110
    by_cases c12 : t725 = true
    ·
     subst c12
     have H1 : ((date_length.f (wrap64 (Int.tdiv (wrap64 ((wrap64 ((wrap64 ((wrap64 (12 * t721)) + t722)) - 1)) + a1)) 12)) (wrap64 ((Int.tmod (wrap64 ((wrap64 ((wrap64 ((wrap64 (12 * t721)) + t722)) - 1)) + a1)) 12) + 1))).bind fun t726 => (if t723 > t726 then ((date_day.f kj3 (wrap64 (Int.tdiv (wrap64 ((wrap64 ((wrap64 ((wrap64 (12 * t721)) + t722)) - 1)) + a1)) 12)) (wrap64 ((Int.tmod (wrap64 ((wrap64 ((wrap64 ((wrap64 (12 * t721)) + t722)) - 1)) + a1)) 12) + 1)) t726).bind fun t727 => (some (t727, 0))) else (if a2 = true then (if t723 = t724 then ((date_day.f kj3 (wrap64 (Int.tdiv (wrap64 ((wrap64 ((wrap64 ((wrap64 (12 * t721)) + t722)) - 1)) + a1)) 12)) (wrap64 ((Int.tmod (wrap64 ((wrap64 ((wrap64 ((wrap64 (12 * t721)) + t722)) - 1)) + a1)) 12) + 1)) t726).bind fun t728 => (some (t728, 0))) else ((date_day.f kj3 (wrap64 (Int.tdiv (wrap64 ((wrap64 ((wrap64 ((wrap64 (12 * t721)) + t722)) - 1)) + a1)) 12)) (wrap64 ((Int.tmod (wrap64 ((wrap64 ((wrap64 ((wrap64 (12 * t721)) + t722)) - 1)) + a1)) 12) + 1)) t723).bind fun t729 => (some (t729, 0)))) else ((date_day.f kj3 (wrap64 (Int.tdiv (wrap64 ((wrap64 ((wrap64 ((wrap64 (12 * t721)) + t722)) - 1)) + a1)) 12)) (wrap64 ((Int.tmod (wrap64 ((wrap64 ((wrap64 ((wrap64 (12 * t721)) + t722)) - 1)) + a1)) 12) + 1)) t723).bind fun t730 => (some (t730, 0)))))) = some (r1, r2) := by rw [if_pos rfl] at H; exact H
     clear H;have H := H1;clear H1;replace H := Option.bind_eq_some_iff.mp H
     obtain ⟨t726, A130, H⟩ := H
     replace H : (if t723 > t726 then ((date_day.f kj3 (wrap64 (Int.tdiv (wrap64 ((wrap64 ((wrap64 ((wrap64 (12 * t721)) + t722)) - 1)) + a1)) 12)) (wrap64 ((Int.tmod (wrap64 ((wrap64 ((wrap64 ((wrap64 (12 * t721)) + t722)) - 1)) + a1)) 12) + 1)) t726).bind fun t727 => (some (t727, 0))) else (if a2 = true then (if t723 = t724 then ((date_day.f kj3 (wrap64 (Int.tdiv (wrap64 ((wrap64 ((wrap64 ((wrap64 (12 * t721)) + t722)) - 1)) + a1)) 12)) (wrap64 ((Int.tmod (wrap64 ((wrap64 ((wrap64 ((wrap64 (12 * t721)) + t722)) - 1)) + a1)) 12) + 1)) t726).bind fun t728 => (some (t728, 0))) else ((date_day.f kj3 (wrap64 (Int.tdiv (wrap64 ((wrap64 ((wrap64 ((wrap64 (12 * t721)) + t722)) - 1)) + a1)) 12)) (wrap64 ((Int.tmod (wrap64 ((wrap64 ((wrap64 ((wrap64 (12 * t721)) + t722)) - 1)) + a1)) 12) + 1)) t723).bind fun t729 => (some (t729, 0)))) else ((date_day.f kj3 (wrap64 (Int.tdiv (wrap64 ((wrap64 ((wrap64 ((wrap64 (12 * t721)) + t722)) - 1)) + a1)) 12)) (wrap64 ((Int.tmod (wrap64 ((wrap64 ((wrap64 ((wrap64 (12 * t721)) + t722)) - 1)) + a1)) 12) + 1)) t723).bind fun t730 => (some (t730, 0))))) = some (r1, r2) := H
     have A13 := Aside0.mk A130;clear A130
     by_cases c14 : t723 > t726
     ·
      rw [if_pos c14] at H
      have c14b0 : decide (t726 < t723) = true := decide_eq_true c14
      clear c14;replace H := Option.bind_eq_some_iff.mp H
      obtain ⟨t727, A150, H⟩ := H
      replace H : (some (t727, 0)) = some (r1, r2) := H
      have A15 := Aside0.mk A150;clear A150
      simp only [Option.some.injEq, Prod.mk.injEq] at H
      obtain ⟨rfl, rfl⟩ := H
      go_wp2_with (first | ((with_reducible refine gate_callee (f := 120) rfl ?_); refine goesL_ (some 27) rfl rfl Try.func120 (by kernel_rfl) rfl #[.int .i64 a0] rfl (by (try simp only [List.map_toArray, List.map_cons, List.map_nil]); first | done | rfl | (simp only [List.length_drop, List.length_take]; rfl)) ?_; (with_reducible refine (date_civil.calls kj3 a0 t721 t722 t723 _ A9.out).mono ?_); rintro e w' ⟨rfl, ⟨nd, rfl⟩⟩; refine ⟨_, rfl, ?_⟩) | ((with_reducible refine gate_callee (f := 122) rfl ?_); refine goesL_ (some 34) rfl rfl Try.func122 (by kernel_rfl) rfl #[.int .i64 t721, .int .i64 t722] rfl (by (try simp only [List.map_toArray, List.map_cons, List.map_nil]); first | done | rfl | (simp only [List.length_drop, List.length_take]; rfl)) ?_; (with_reducible refine (date_length.calls t721 t722 t724 _ A10.out).mono ?_); rintro e w' ⟨rfl, ⟨nd, rfl⟩⟩; refine ⟨_, rfl, ?_⟩) | ((with_reducible refine gate_callee (f := 121) rfl ?_); refine goesL_ (some 50) rfl rfl Try.func121 (by kernel_rfl) rfl #[.int .i64 (wrap64 (Int.tdiv (wrap64 ((wrap64 ((wrap64 ((wrap64 (12 * t721)) + t722)) - 1)) + a1)) 12)), .int .i64 (wrap64 ((Int.tmod (wrap64 ((wrap64 ((wrap64 ((wrap64 (12 * t721)) + t722)) - 1)) + a1)) 12) + 1))] rfl (by (try simp only [List.map_toArray, List.map_cons, List.map_nil]); first | done | rfl | (simp only [List.length_drop, List.length_take]; rfl)) ?_; (with_reducible refine (date_month.calls (wrap64 (Int.tdiv (wrap64 ((wrap64 ((wrap64 ((wrap64 (12 * t721)) + t722)) - 1)) + a1)) 12)) (wrap64 ((Int.tmod (wrap64 ((wrap64 ((wrap64 ((wrap64 (12 * t721)) + t722)) - 1)) + a1)) 12) + 1)) true _ A11.out).mono ?_); rintro e w' ⟨rfl, ⟨nd, rfl⟩⟩; refine ⟨_, rfl, ?_⟩) | ((with_reducible refine gate_callee (f := 122) rfl ?_); refine goesL_ (some 54) rfl rfl Try.func122 (by kernel_rfl) rfl #[.int .i64 (wrap64 (Int.tdiv (wrap64 ((wrap64 ((wrap64 ((wrap64 (12 * t721)) + t722)) - 1)) + a1)) 12)), .int .i64 (wrap64 ((Int.tmod (wrap64 ((wrap64 ((wrap64 ((wrap64 (12 * t721)) + t722)) - 1)) + a1)) 12) + 1))] rfl (by (try simp only [List.map_toArray, List.map_cons, List.map_nil]); first | done | rfl | (simp only [List.length_drop, List.length_take]; rfl)) ?_; (with_reducible refine (date_length.calls (wrap64 (Int.tdiv (wrap64 ((wrap64 ((wrap64 ((wrap64 (12 * t721)) + t722)) - 1)) + a1)) 12)) (wrap64 ((Int.tmod (wrap64 ((wrap64 ((wrap64 ((wrap64 (12 * t721)) + t722)) - 1)) + a1)) 12) + 1)) t726 _ A13.out).mono ?_); rintro e w' ⟨rfl, ⟨nd, rfl⟩⟩; refine ⟨_, rfl, ?_⟩) | ((with_reducible refine gate_callee (f := 123) rfl ?_); refine goesL_ (some 68) rfl rfl Try.func123 (by kernel_rfl) rfl #[.int .i64 (wrap64 (Int.tdiv (wrap64 ((wrap64 ((wrap64 ((wrap64 (12 * t721)) + t722)) - 1)) + a1)) 12)), .int .i64 (wrap64 ((Int.tmod (wrap64 ((wrap64 ((wrap64 ((wrap64 (12 * t721)) + t722)) - 1)) + a1)) 12) + 1)), .int .i64 t726] rfl (by (try simp only [List.map_toArray, List.map_cons, List.map_nil]); first | done | rfl | (simp only [List.length_drop, List.length_take]; rfl)) ?_; (with_reducible refine (date_day.calls kj3 (wrap64 (Int.tdiv (wrap64 ((wrap64 ((wrap64 ((wrap64 (12 * t721)) + t722)) - 1)) + a1)) 12)) (wrap64 ((Int.tmod (wrap64 ((wrap64 ((wrap64 ((wrap64 (12 * t721)) + t722)) - 1)) + a1)) 12) + 1)) t726 t727 _ A15.out).mono ?_); rintro e w' ⟨rfl, ⟨nd, rfl⟩⟩; refine ⟨_, rfl, ?_⟩))
      go_ret2
      exact ⟨by first | rfl | (simp; done) | (simp [*]; done), by repeat (first | exact Drawn0.refl _ | apply Drawn0.step)⟩
     ·
      rw [if_neg c14] at H
      have c14b0 : decide (t726 < t723) = false := decide_eq_false c14
      clear c14
      by_cases c16 : a2 = true
      ·
       subst c16
       have H1 : (if t723 = t724 then ((date_day.f kj3 (wrap64 (Int.tdiv (wrap64 ((wrap64 ((wrap64 ((wrap64 (12 * t721)) + t722)) - 1)) + a1)) 12)) (wrap64 ((Int.tmod (wrap64 ((wrap64 ((wrap64 ((wrap64 (12 * t721)) + t722)) - 1)) + a1)) 12) + 1)) t726).bind fun t728 => (some (t728, 0))) else ((date_day.f kj3 (wrap64 (Int.tdiv (wrap64 ((wrap64 ((wrap64 ((wrap64 (12 * t721)) + t722)) - 1)) + a1)) 12)) (wrap64 ((Int.tmod (wrap64 ((wrap64 ((wrap64 ((wrap64 (12 * t721)) + t722)) - 1)) + a1)) 12) + 1)) t723).bind fun t729 => (some (t729, 0)))) = some (r1, r2) := by rw [if_pos rfl] at H; exact H
       clear H;have H := H1;clear H1
       by_cases c17 : t723 = t724
       ·
        rw [if_pos c17] at H
        have c17b0 : (t723 == t724) = true := beq_iff_eq.mpr c17
        have c17b1 : (t723 != t724) = false := bne_eq_false_iff_eq.mpr c17
        clear c17;replace H := Option.bind_eq_some_iff.mp H
        obtain ⟨t728, A180, H⟩ := H
        replace H : (some (t728, 0)) = some (r1, r2) := H
        have A18 := Aside0.mk A180;clear A180
        simp only [Option.some.injEq, Prod.mk.injEq] at H
        obtain ⟨rfl, rfl⟩ := H
        go_wp2_with (first | ((with_reducible refine gate_callee (f := 120) rfl ?_); refine goesL_ (some 27) rfl rfl Try.func120 (by kernel_rfl) rfl #[.int .i64 a0] rfl (by (try simp only [List.map_toArray, List.map_cons, List.map_nil]); first | done | rfl | (simp only [List.length_drop, List.length_take]; rfl)) ?_; (with_reducible refine (date_civil.calls kj3 a0 t721 t722 t723 _ A9.out).mono ?_); rintro e w' ⟨rfl, ⟨nd, rfl⟩⟩; refine ⟨_, rfl, ?_⟩) | ((with_reducible refine gate_callee (f := 122) rfl ?_); refine goesL_ (some 34) rfl rfl Try.func122 (by kernel_rfl) rfl #[.int .i64 t721, .int .i64 t722] rfl (by (try simp only [List.map_toArray, List.map_cons, List.map_nil]); first | done | rfl | (simp only [List.length_drop, List.length_take]; rfl)) ?_; (with_reducible refine (date_length.calls t721 t722 t724 _ A10.out).mono ?_); rintro e w' ⟨rfl, ⟨nd, rfl⟩⟩; refine ⟨_, rfl, ?_⟩) | ((with_reducible refine gate_callee (f := 121) rfl ?_); refine goesL_ (some 50) rfl rfl Try.func121 (by kernel_rfl) rfl #[.int .i64 (wrap64 (Int.tdiv (wrap64 ((wrap64 ((wrap64 ((wrap64 (12 * t721)) + t722)) - 1)) + a1)) 12)), .int .i64 (wrap64 ((Int.tmod (wrap64 ((wrap64 ((wrap64 ((wrap64 (12 * t721)) + t722)) - 1)) + a1)) 12) + 1))] rfl (by (try simp only [List.map_toArray, List.map_cons, List.map_nil]); first | done | rfl | (simp only [List.length_drop, List.length_take]; rfl)) ?_; (with_reducible refine (date_month.calls (wrap64 (Int.tdiv (wrap64 ((wrap64 ((wrap64 ((wrap64 (12 * t721)) + t722)) - 1)) + a1)) 12)) (wrap64 ((Int.tmod (wrap64 ((wrap64 ((wrap64 ((wrap64 (12 * t721)) + t722)) - 1)) + a1)) 12) + 1)) true _ A11.out).mono ?_); rintro e w' ⟨rfl, ⟨nd, rfl⟩⟩; refine ⟨_, rfl, ?_⟩) | ((with_reducible refine gate_callee (f := 122) rfl ?_); refine goesL_ (some 54) rfl rfl Try.func122 (by kernel_rfl) rfl #[.int .i64 (wrap64 (Int.tdiv (wrap64 ((wrap64 ((wrap64 ((wrap64 (12 * t721)) + t722)) - 1)) + a1)) 12)), .int .i64 (wrap64 ((Int.tmod (wrap64 ((wrap64 ((wrap64 ((wrap64 (12 * t721)) + t722)) - 1)) + a1)) 12) + 1))] rfl (by (try simp only [List.map_toArray, List.map_cons, List.map_nil]); first | done | rfl | (simp only [List.length_drop, List.length_take]; rfl)) ?_; (with_reducible refine (date_length.calls (wrap64 (Int.tdiv (wrap64 ((wrap64 ((wrap64 ((wrap64 (12 * t721)) + t722)) - 1)) + a1)) 12)) (wrap64 ((Int.tmod (wrap64 ((wrap64 ((wrap64 ((wrap64 (12 * t721)) + t722)) - 1)) + a1)) 12) + 1)) t726 _ A13.out).mono ?_); rintro e w' ⟨rfl, ⟨nd, rfl⟩⟩; refine ⟨_, rfl, ?_⟩) | ((with_reducible refine gate_callee (f := 123) rfl ?_); refine goesL_ (some 68) rfl rfl Try.func123 (by kernel_rfl) rfl #[.int .i64 (wrap64 (Int.tdiv (wrap64 ((wrap64 ((wrap64 ((wrap64 (12 * t721)) + t722)) - 1)) + a1)) 12)), .int .i64 (wrap64 ((Int.tmod (wrap64 ((wrap64 ((wrap64 ((wrap64 (12 * t721)) + t722)) - 1)) + a1)) 12) + 1)), .int .i64 t726] rfl (by (try simp only [List.map_toArray, List.map_cons, List.map_nil]); first | done | rfl | (simp only [List.length_drop, List.length_take]; rfl)) ?_; (with_reducible refine (date_day.calls kj3 (wrap64 (Int.tdiv (wrap64 ((wrap64 ((wrap64 ((wrap64 (12 * t721)) + t722)) - 1)) + a1)) 12)) (wrap64 ((Int.tmod (wrap64 ((wrap64 ((wrap64 ((wrap64 (12 * t721)) + t722)) - 1)) + a1)) 12) + 1)) t726 t728 _ A18.out).mono ?_); rintro e w' ⟨rfl, ⟨nd, rfl⟩⟩; refine ⟨_, rfl, ?_⟩))
        go_ret2
        exact ⟨by first | rfl | (simp; done) | (simp [*]; done), by repeat (first | exact Drawn0.refl _ | apply Drawn0.step)⟩
       ·
        rw [if_neg c17] at H
        have c17b0 : (t723 == t724) = false := beq_eq_false_iff_ne.mpr c17
        have c17b1 : (t723 != t724) = true := bne_iff_ne.mpr c17
        replace H := Option.bind_eq_some_iff.mp H
        obtain ⟨t729, A190, H⟩ := H
        replace H : (some (t729, 0)) = some (r1, r2) := H
        have A19 := Aside0.mk A190;clear A190
        simp only [Option.some.injEq, Prod.mk.injEq] at H
        obtain ⟨rfl, rfl⟩ := H
        go_wp2_with (first | ((with_reducible refine gate_callee (f := 120) rfl ?_); refine goesL_ (some 27) rfl rfl Try.func120 (by kernel_rfl) rfl #[.int .i64 a0] rfl (by (try simp only [List.map_toArray, List.map_cons, List.map_nil]); first | done | rfl | (simp only [List.length_drop, List.length_take]; rfl)) ?_; (with_reducible refine (date_civil.calls kj3 a0 t721 t722 t723 _ A9.out).mono ?_); rintro e w' ⟨rfl, ⟨nd, rfl⟩⟩; refine ⟨_, rfl, ?_⟩) | ((with_reducible refine gate_callee (f := 122) rfl ?_); refine goesL_ (some 34) rfl rfl Try.func122 (by kernel_rfl) rfl #[.int .i64 t721, .int .i64 t722] rfl (by (try simp only [List.map_toArray, List.map_cons, List.map_nil]); first | done | rfl | (simp only [List.length_drop, List.length_take]; rfl)) ?_; (with_reducible refine (date_length.calls t721 t722 t724 _ A10.out).mono ?_); rintro e w' ⟨rfl, ⟨nd, rfl⟩⟩; refine ⟨_, rfl, ?_⟩) | ((with_reducible refine gate_callee (f := 121) rfl ?_); refine goesL_ (some 50) rfl rfl Try.func121 (by kernel_rfl) rfl #[.int .i64 (wrap64 (Int.tdiv (wrap64 ((wrap64 ((wrap64 ((wrap64 (12 * t721)) + t722)) - 1)) + a1)) 12)), .int .i64 (wrap64 ((Int.tmod (wrap64 ((wrap64 ((wrap64 ((wrap64 (12 * t721)) + t722)) - 1)) + a1)) 12) + 1))] rfl (by (try simp only [List.map_toArray, List.map_cons, List.map_nil]); first | done | rfl | (simp only [List.length_drop, List.length_take]; rfl)) ?_; (with_reducible refine (date_month.calls (wrap64 (Int.tdiv (wrap64 ((wrap64 ((wrap64 ((wrap64 (12 * t721)) + t722)) - 1)) + a1)) 12)) (wrap64 ((Int.tmod (wrap64 ((wrap64 ((wrap64 ((wrap64 (12 * t721)) + t722)) - 1)) + a1)) 12) + 1)) true _ A11.out).mono ?_); rintro e w' ⟨rfl, ⟨nd, rfl⟩⟩; refine ⟨_, rfl, ?_⟩) | ((with_reducible refine gate_callee (f := 122) rfl ?_); refine goesL_ (some 54) rfl rfl Try.func122 (by kernel_rfl) rfl #[.int .i64 (wrap64 (Int.tdiv (wrap64 ((wrap64 ((wrap64 ((wrap64 (12 * t721)) + t722)) - 1)) + a1)) 12)), .int .i64 (wrap64 ((Int.tmod (wrap64 ((wrap64 ((wrap64 ((wrap64 (12 * t721)) + t722)) - 1)) + a1)) 12) + 1))] rfl (by (try simp only [List.map_toArray, List.map_cons, List.map_nil]); first | done | rfl | (simp only [List.length_drop, List.length_take]; rfl)) ?_; (with_reducible refine (date_length.calls (wrap64 (Int.tdiv (wrap64 ((wrap64 ((wrap64 ((wrap64 (12 * t721)) + t722)) - 1)) + a1)) 12)) (wrap64 ((Int.tmod (wrap64 ((wrap64 ((wrap64 ((wrap64 (12 * t721)) + t722)) - 1)) + a1)) 12) + 1)) t726 _ A13.out).mono ?_); rintro e w' ⟨rfl, ⟨nd, rfl⟩⟩; refine ⟨_, rfl, ?_⟩) | ((with_reducible refine gate_callee (f := 123) rfl ?_); refine goesL_ (some 68) rfl rfl Try.func123 (by kernel_rfl) rfl #[.int .i64 (wrap64 (Int.tdiv (wrap64 ((wrap64 ((wrap64 ((wrap64 (12 * t721)) + t722)) - 1)) + a1)) 12)), .int .i64 (wrap64 ((Int.tmod (wrap64 ((wrap64 ((wrap64 ((wrap64 (12 * t721)) + t722)) - 1)) + a1)) 12) + 1)), .int .i64 t723] rfl (by (try simp only [List.map_toArray, List.map_cons, List.map_nil]); first | done | rfl | (simp only [List.length_drop, List.length_take]; rfl)) ?_; (with_reducible refine (date_day.calls kj3 (wrap64 (Int.tdiv (wrap64 ((wrap64 ((wrap64 ((wrap64 (12 * t721)) + t722)) - 1)) + a1)) 12)) (wrap64 ((Int.tmod (wrap64 ((wrap64 ((wrap64 ((wrap64 (12 * t721)) + t722)) - 1)) + a1)) 12) + 1)) t723 t729 _ A19.out).mono ?_); rintro e w' ⟨rfl, ⟨nd, rfl⟩⟩; refine ⟨_, rfl, ?_⟩))
        go_ret2
        exact ⟨by first | rfl | (simp; done) | (simp [*]; done), by repeat (first | exact Drawn0.refl _ | apply Drawn0.step)⟩
      ·
       replace c16 := Bool.eq_false_iff.mpr c16;subst c16
       have H1 : ((date_day.f kj3 (wrap64 (Int.tdiv (wrap64 ((wrap64 ((wrap64 ((wrap64 (12 * t721)) + t722)) - 1)) + a1)) 12)) (wrap64 ((Int.tmod (wrap64 ((wrap64 ((wrap64 ((wrap64 (12 * t721)) + t722)) - 1)) + a1)) 12) + 1)) t723).bind fun t730 => (some (t730, 0))) = some (r1, r2) := by rw [if_neg (show ¬ (false = true) by decide)] at H; exact H
       clear H;have H := H1;clear H1;replace H := Option.bind_eq_some_iff.mp H
       obtain ⟨t730, A200, H⟩ := H
       replace H : (some (t730, 0)) = some (r1, r2) := H
       have A20 := Aside0.mk A200;clear A200
       simp only [Option.some.injEq, Prod.mk.injEq] at H
       obtain ⟨rfl, rfl⟩ := H
       go_wp2_with (first | ((with_reducible refine gate_callee (f := 120) rfl ?_); refine goesL_ (some 27) rfl rfl Try.func120 (by kernel_rfl) rfl #[.int .i64 a0] rfl (by (try simp only [List.map_toArray, List.map_cons, List.map_nil]); first | done | rfl | (simp only [List.length_drop, List.length_take]; rfl)) ?_; (with_reducible refine (date_civil.calls kj3 a0 t721 t722 t723 _ A9.out).mono ?_); rintro e w' ⟨rfl, ⟨nd, rfl⟩⟩; refine ⟨_, rfl, ?_⟩) | ((with_reducible refine gate_callee (f := 122) rfl ?_); refine goesL_ (some 34) rfl rfl Try.func122 (by kernel_rfl) rfl #[.int .i64 t721, .int .i64 t722] rfl (by (try simp only [List.map_toArray, List.map_cons, List.map_nil]); first | done | rfl | (simp only [List.length_drop, List.length_take]; rfl)) ?_; (with_reducible refine (date_length.calls t721 t722 t724 _ A10.out).mono ?_); rintro e w' ⟨rfl, ⟨nd, rfl⟩⟩; refine ⟨_, rfl, ?_⟩) | ((with_reducible refine gate_callee (f := 121) rfl ?_); refine goesL_ (some 50) rfl rfl Try.func121 (by kernel_rfl) rfl #[.int .i64 (wrap64 (Int.tdiv (wrap64 ((wrap64 ((wrap64 ((wrap64 (12 * t721)) + t722)) - 1)) + a1)) 12)), .int .i64 (wrap64 ((Int.tmod (wrap64 ((wrap64 ((wrap64 ((wrap64 (12 * t721)) + t722)) - 1)) + a1)) 12) + 1))] rfl (by (try simp only [List.map_toArray, List.map_cons, List.map_nil]); first | done | rfl | (simp only [List.length_drop, List.length_take]; rfl)) ?_; (with_reducible refine (date_month.calls (wrap64 (Int.tdiv (wrap64 ((wrap64 ((wrap64 ((wrap64 (12 * t721)) + t722)) - 1)) + a1)) 12)) (wrap64 ((Int.tmod (wrap64 ((wrap64 ((wrap64 ((wrap64 (12 * t721)) + t722)) - 1)) + a1)) 12) + 1)) true _ A11.out).mono ?_); rintro e w' ⟨rfl, ⟨nd, rfl⟩⟩; refine ⟨_, rfl, ?_⟩) | ((with_reducible refine gate_callee (f := 122) rfl ?_); refine goesL_ (some 54) rfl rfl Try.func122 (by kernel_rfl) rfl #[.int .i64 (wrap64 (Int.tdiv (wrap64 ((wrap64 ((wrap64 ((wrap64 (12 * t721)) + t722)) - 1)) + a1)) 12)), .int .i64 (wrap64 ((Int.tmod (wrap64 ((wrap64 ((wrap64 ((wrap64 (12 * t721)) + t722)) - 1)) + a1)) 12) + 1))] rfl (by (try simp only [List.map_toArray, List.map_cons, List.map_nil]); first | done | rfl | (simp only [List.length_drop, List.length_take]; rfl)) ?_; (with_reducible refine (date_length.calls (wrap64 (Int.tdiv (wrap64 ((wrap64 ((wrap64 ((wrap64 (12 * t721)) + t722)) - 1)) + a1)) 12)) (wrap64 ((Int.tmod (wrap64 ((wrap64 ((wrap64 ((wrap64 (12 * t721)) + t722)) - 1)) + a1)) 12) + 1)) t726 _ A13.out).mono ?_); rintro e w' ⟨rfl, ⟨nd, rfl⟩⟩; refine ⟨_, rfl, ?_⟩) | ((with_reducible refine gate_callee (f := 123) rfl ?_); refine goesL_ (some 68) rfl rfl Try.func123 (by kernel_rfl) rfl #[.int .i64 (wrap64 (Int.tdiv (wrap64 ((wrap64 ((wrap64 ((wrap64 (12 * t721)) + t722)) - 1)) + a1)) 12)), .int .i64 (wrap64 ((Int.tmod (wrap64 ((wrap64 ((wrap64 ((wrap64 (12 * t721)) + t722)) - 1)) + a1)) 12) + 1)), .int .i64 t723] rfl (by (try simp only [List.map_toArray, List.map_cons, List.map_nil]); first | done | rfl | (simp only [List.length_drop, List.length_take]; rfl)) ?_; (with_reducible refine (date_day.calls kj3 (wrap64 (Int.tdiv (wrap64 ((wrap64 ((wrap64 ((wrap64 (12 * t721)) + t722)) - 1)) + a1)) 12)) (wrap64 ((Int.tmod (wrap64 ((wrap64 ((wrap64 ((wrap64 (12 * t721)) + t722)) - 1)) + a1)) 12) + 1)) t723 t730 _ A20.out).mono ?_); rintro e w' ⟨rfl, ⟨nd, rfl⟩⟩; refine ⟨_, rfl, ?_⟩))
       go_ret2
       exact ⟨by first | rfl | (simp; done) | (simp [*]; done), by repeat (first | exact Drawn0.refl _ | apply Drawn0.step)⟩
    ·
     replace c12 := Bool.eq_false_iff.mpr c12;subst c12
     have H1 : (some (0, 51)) = some (r1, r2) := by rw [if_neg (show ¬ (false = true) by decide)] at H; exact H
     clear H;have H := H1;clear H1
     simp only [Option.some.injEq, Prod.mk.injEq] at H
     obtain ⟨rfl, rfl⟩ := H
     go_wp2_with (first | ((with_reducible refine gate_callee (f := 120) rfl ?_); refine goesL_ (some 27) rfl rfl Try.func120 (by kernel_rfl) rfl #[.int .i64 a0] rfl (by (try simp only [List.map_toArray, List.map_cons, List.map_nil]); first | done | rfl | (simp only [List.length_drop, List.length_take]; rfl)) ?_; (with_reducible refine (date_civil.calls kj3 a0 t721 t722 t723 _ A9.out).mono ?_); rintro e w' ⟨rfl, ⟨nd, rfl⟩⟩; refine ⟨_, rfl, ?_⟩) | ((with_reducible refine gate_callee (f := 122) rfl ?_); refine goesL_ (some 34) rfl rfl Try.func122 (by kernel_rfl) rfl #[.int .i64 t721, .int .i64 t722] rfl (by (try simp only [List.map_toArray, List.map_cons, List.map_nil]); first | done | rfl | (simp only [List.length_drop, List.length_take]; rfl)) ?_; (with_reducible refine (date_length.calls t721 t722 t724 _ A10.out).mono ?_); rintro e w' ⟨rfl, ⟨nd, rfl⟩⟩; refine ⟨_, rfl, ?_⟩) | ((with_reducible refine gate_callee (f := 121) rfl ?_); refine goesL_ (some 50) rfl rfl Try.func121 (by kernel_rfl) rfl #[.int .i64 (wrap64 (Int.tdiv (wrap64 ((wrap64 ((wrap64 ((wrap64 (12 * t721)) + t722)) - 1)) + a1)) 12)), .int .i64 (wrap64 ((Int.tmod (wrap64 ((wrap64 ((wrap64 ((wrap64 (12 * t721)) + t722)) - 1)) + a1)) 12) + 1))] rfl (by (try simp only [List.map_toArray, List.map_cons, List.map_nil]); first | done | rfl | (simp only [List.length_drop, List.length_take]; rfl)) ?_; (with_reducible refine (date_month.calls (wrap64 (Int.tdiv (wrap64 ((wrap64 ((wrap64 ((wrap64 (12 * t721)) + t722)) - 1)) + a1)) 12)) (wrap64 ((Int.tmod (wrap64 ((wrap64 ((wrap64 ((wrap64 (12 * t721)) + t722)) - 1)) + a1)) 12) + 1)) false _ A11.out).mono ?_); rintro e w' ⟨rfl, ⟨nd, rfl⟩⟩; refine ⟨_, rfl, ?_⟩))
     go_ret2
     exact ⟨by first | rfl | (simp; done) | (simp [*]; done), by repeat (first | exact Drawn0.refl _ | apply Drawn0.step)⟩
def date_Third.f (k : Nat) (a0 : Int) (a1 : Int) : Option (Int × Int) := (date_month.f a0 a1).bind fun t731 => (if t731 = true then ((date_day.f k a0 a1 15).bind fun t732 => (some (wrap64 (t732 + (Int.tmod (wrap64 (9 - (Int.tmod t732 7))) 7)), 0))) else (some (0, 50)))
theorem date_Third.mono : ∀ a0 a1 k, LeO (date_Third.f k a0 a1) (date_Third.f (k + 1) a0 a1) := by
 intro a0 a1 k
 unfold date_Third.f
 repeat' first
   | (with_reducible exact date_day.mono _ _ _ _)
   | (with_reducible exact LeO.refl _)
   | (with_reducible exact LeO.none _)
   | (with_reducible refine LeO.ite ?_ ?_)
   | (with_reducible refine LeO.bind ?_ (fun _ => ?_))
   | exact date_day.mono _ _ _ _
   | exact LeO.none _
   | refine LeO.ite ?_ ?_
   | refine LeO.bind ?_ (fun _ => ?_)
set_option maxHeartbeats 8000000 in
set_option maxRecDepth 100000 in
theorem date_Third.calls (k : Nat) (a0 : Int) (a1 : Int) (r1 : Int) (r2 : Int) (w : World) (h : date_Third.f k a0 a1 = some (r1, r2)) :
  Calls Try.prog 114 #[.int .i64 a0, .int .i64 a1] w fun e w' => e = .returned (.tuple #[.int .i64 r1, .int .i64 r2]) ∧ Drawn0 w w' := by
 have H : ((date_month.f a0 a1).bind fun t731 => (if t731 = true then ((date_day.f k a0 a1 15).bind fun t732 => (some (wrap64 (t732 + (Int.tmod (wrap64 (9 - (Int.tmod t732 7))) 7)), 0))) else (some (0, 50)))) = some (r1, r2) := h
 clear h;replace H := Option.bind_eq_some_iff.mp H
 obtain ⟨t731, A30, H⟩ := H
 replace H : (if t731 = true then ((date_day.f k a0 a1 15).bind fun t732 => (some (wrap64 (t732 + (Int.tmod (wrap64 (9 - (Int.tmod t732 7))) 7)), 0))) else (some (0, 50))) = some (r1, r2) := H
 have A3 := Aside0.mk A30;clear A30
 by_cases c4 : t731 = true
 ·
  subst c4
  have H1 : ((date_day.f k a0 a1 15).bind fun t732 => (some (wrap64 (t732 + (Int.tmod (wrap64 (9 - (Int.tmod t732 7))) 7)), 0))) = some (r1, r2) := by rw [if_pos rfl] at H; exact H
  clear H;have H := H1;clear H1;replace H := Option.bind_eq_some_iff.mp H
  obtain ⟨t732, A50, H⟩ := H
  replace H : (some (wrap64 (t732 + (Int.tmod (wrap64 (9 - (Int.tmod t732 7))) 7)), 0)) = some (r1, r2) := H
  have A5 := Aside0.mk A50;clear A50
  simp only [Option.some.injEq, Prod.mk.injEq] at H
  obtain ⟨rfl, rfl⟩ := H
  go_enter Try.func114, Try.ntmps114
  go_wp2_with (first | ((with_reducible refine gate_callee (f := 121) rfl ?_); refine goesL_ (some 9) rfl rfl Try.func121 (by kernel_rfl) rfl #[.int .i64 a0, .int .i64 a1] rfl (by (try simp only [List.map_toArray, List.map_cons, List.map_nil]); first | done | rfl | (simp only [List.length_drop, List.length_take]; rfl)) ?_; (with_reducible refine (date_month.calls a0 a1 true _ A3.out).mono ?_); rintro e w' ⟨rfl, ⟨nd, rfl⟩⟩; refine ⟨_, rfl, ?_⟩) | ((with_reducible refine gate_callee (f := 123) rfl ?_); refine goesL_ (some 13) rfl rfl Try.func123 (by kernel_rfl) rfl #[.int .i64 a0, .int .i64 a1, .int .i64 15] rfl (by (try simp only [List.map_toArray, List.map_cons, List.map_nil]); first | done | rfl | (simp only [List.length_drop, List.length_take]; rfl)) ?_; (with_reducible refine (date_day.calls k a0 a1 15 t732 _ A5.out).mono ?_); rintro e w' ⟨rfl, ⟨nd, rfl⟩⟩; refine ⟨_, rfl, ?_⟩))
  go_ret2
  exact ⟨by first | rfl | (simp; done) | (simp [*]; done), by repeat (first | exact Drawn0.refl _ | apply Drawn0.step)⟩
 ·
  replace c4 := Bool.eq_false_iff.mpr c4;subst c4
  have H1 : (some (0, 50)) = some (r1, r2) := by rw [if_neg (show ¬ (false = true) by decide)] at H; exact H
  clear H;have H := H1;clear H1
  simp only [Option.some.injEq, Prod.mk.injEq] at H
  obtain ⟨rfl, rfl⟩ := H
  go_enter Try.func114, Try.ntmps114
  go_wp2_with (first | ((with_reducible refine gate_callee (f := 121) rfl ?_); refine goesL_ (some 9) rfl rfl Try.func121 (by kernel_rfl) rfl #[.int .i64 a0, .int .i64 a1] rfl (by (try simp only [List.map_toArray, List.map_cons, List.map_nil]); first | done | rfl | (simp only [List.length_drop, List.length_take]; rfl)) ?_; (with_reducible refine (date_month.calls a0 a1 false _ A3.out).mono ?_); rintro e w' ⟨rfl, ⟨nd, rfl⟩⟩; refine ⟨_, rfl, ?_⟩))
  go_ret2
  exact ⟨by first | rfl | (simp; done) | (simp [*]; done), by repeat (first | exact Drawn0.refl _ | apply Drawn0.step)⟩
end Go.Proofs.Ytoncignjcgjhhaa.Q
namespace Go.Proofs.Ytoncignjcgjhhaa.Q
open Go.RowKit Go.Proofs.YtoncignjcgjhhaaW.PrintWords Go.Proofs.YtoncignjcgjhhaaW.PrintLast Go.Proofs.YtoncignjcgjhhaaW.PrintMore
attribute [local go_sem] max2_int min2_int max_two min_two max_three min_three max_four min_four   -- for this text's walks alone
def sched_point.j0 : Nat → Int → Int → Int → Int → Int → Int → Int → Int → Int → Int → Int → List (S63) → Option (Int × Bool)
  | 0, _, _, _, _, _, _, _, _, _, _, _, _ => none
  | k + 1, x1, x2, x734000, x734001, x734002, x734003, x734004, x734005, x734006, x734007, x734008, x734009 => (date_Months.f k x1 x2 false).bind fun bt736 => (if bt736.2 = 0 then ((date_Civil.f k bt736.1).bind fun bt738 => (if x734005 = 1 then ((date_Length.f bt738.1 bt738.2.1).bind fun bt742 => ((date_Of.f k bt738.1 bt738.2.1 bt742.1).bind fun bt744 => (some (bt744.1, true)))) else (if x734005 = 2 then ((date_Third.f k bt738.1 bt738.2.1).bind fun bt746 => (some (bt746.1, true))) else (some (bt736.1, true))))) else (some (0, false)))
def sched_point.f (k : Nat) (a0_0 : Int) (a0_1 : Int) (a0_2 : Int) (a0_3 : Int) (a0_4 : Int) (a0_5 : Int) (a0_6 : Int) (a0_7 : Int) (a0_8 : Int) (l0_9 : List (S63)) (a1 : Int) (a2 : Int) : Option (Int × Bool) := if a0_3 = 2 then ((sched_is.f (wrap64 (a1 + (wrap64 ((wrap64 ((mn (mx a2 (-1048576)) 1048576) * a0_2)) * 7))))).bind fun t734 => (some (wrap64 (a1 + (wrap64 ((wrap64 ((mn (mx a2 (-1048576)) 1048576) * a0_2)) * 7))), t734))) else (if a0_3 = 1 then ((sched_is.f (wrap64 (a1 + (wrap64 ((mn (mx a2 (-1048576)) 1048576) * a0_2))))).bind fun t735 => (some (wrap64 (a1 + (wrap64 ((mn (mx a2 (-1048576)) 1048576) * a0_2))), t735))) else (if a0_3 = 4 then (sched_point.j0 k a1 (wrap64 ((wrap64 ((mn (mx a2 (-1048576)) 1048576) * a0_2)) * 12)) a0_0 a0_1 a0_2 a0_3 a0_4 a0_5 a0_6 a0_7 a0_8 l0_9) else (sched_point.j0 k a1 (wrap64 ((mn (mx a2 (-1048576)) 1048576) * a0_2)) a0_0 a0_1 a0_2 a0_3 a0_4 a0_5 a0_6 a0_7 a0_8 l0_9)))
theorem sched_point.mono_l : ∀ k, (∀ y0 y1 y2 y3 y4 y5 y6 y7 y8 y9 y10 y11, LeO (sched_point.j0 k y0 y1 y2 y3 y4 y5 y6 y7 y8 y9 y10 y11) (sched_point.j0 (k + 1) y0 y1 y2 y3 y4 y5 y6 y7 y8 y9 y10 y11))
 | 0 => fun _ _ _ _ _ _ _ _ _ _ _ _ r h => by simp [sched_point.j0] at h
 | k + 1 => by
  have ih0 := sched_point.mono_l k
  ·
   intro y0 y1 y2 y3 y4 y5 y6 y7 y8 y9 y10 y11
   unfold sched_point.j0
   repeat' first
   | (with_reducible exact ih0 _ _ _ _ _ _ _ _ _ _ _ _)
   | (with_reducible exact date_Civil.mono _ _)
   | (with_reducible exact date_Months.mono _ _ _ _)
   | (with_reducible exact date_Of.mono _ _ _ _)
   | (with_reducible exact date_Third.mono _ _ _)
   | (with_reducible exact LeO.refl _)
   | (with_reducible exact LeO.none _)
   | (with_reducible refine LeO.ite ?_ ?_)
   | (with_reducible refine LeO.bind ?_ (fun _ => ?_))
   | exact ih0 _ _ _ _ _ _ _ _ _ _ _ _
   | exact date_Civil.mono _ _
   | exact date_Months.mono _ _ _ _
   | exact date_Of.mono _ _ _ _
   | exact date_Third.mono _ _ _
   | exact LeO.none _
   | refine LeO.ite ?_ ?_
   | refine LeO.bind ?_ (fun _ => ?_)
theorem sched_point.mono : ∀ a0 a1 a2 a3 a4 a5 a6 a7 a8 a9 a10 a11 k, LeO (sched_point.f k a0 a1 a2 a3 a4 a5 a6 a7 a8 a9 a10 a11) (sched_point.f (k + 1) a0 a1 a2 a3 a4 a5 a6 a7 a8 a9 a10 a11) := by
 intro a0 a1 a2 a3 a4 a5 a6 a7 a8 a9 a10 a11 k
 have ih0 := sched_point.mono_l k
 unfold sched_point.f
 repeat' first
   | (with_reducible exact ih0 _ _ _ _ _ _ _ _ _ _ _ _)
   | (with_reducible exact date_Civil.mono _ _)
   | (with_reducible exact date_Months.mono _ _ _ _)
   | (with_reducible exact date_Of.mono _ _ _ _)
   | (with_reducible exact date_Third.mono _ _ _)
   | (with_reducible exact LeO.refl _)
   | (with_reducible exact LeO.none _)
   | (with_reducible refine LeO.ite ?_ ?_)
   | (with_reducible refine LeO.bind ?_ (fun _ => ?_))
   | exact ih0 _ _ _ _ _ _ _ _ _ _ _ _
   | exact date_Civil.mono _ _
   | exact date_Months.mono _ _ _ _
   | exact date_Of.mono _ _ _ _
   | exact date_Third.mono _ _ _
   | exact LeO.none _
   | refine LeO.ite ?_ ?_
   | refine LeO.bind ?_ (fun _ => ?_)
set_option maxHeartbeats 8000000 in
set_option maxRecDepth 100000 in
theorem sched_point.calls (k : Nat) (a0_0 : Int) (a0_1 : Int) (a0_2 : Int) (a0_3 : Int) (a0_4 : Int) (a0_5 : Int) (a0_6 : Int) (a0_7 : Int) (a0_8 : Int) (A0_9 : Option Addr) (c0_9 : Nat) (l0_9 : List (S63)) (a1 : Int) (a2 : Int) (r1 : Int) (r2 : Bool) (w : World) (hr0_9 : Kd.C k63 w A0_9 l0_9.length l0_9) (hc0_9 : l0_9.length ≤ c0_9) (h : sched_point.f k a0_0 a0_1 a0_2 a0_3 a0_4 a0_5 a0_6 a0_7 a0_8 l0_9 a1 a2 = some (r1, r2)) :
  Calls Try.prog 88 #[.agg #[.int .i64 a0_0, .int .i64 a0_1, .int .i64 a0_2, .int .i64 a0_3, .int .i64 a0_4, .int .i64 a0_5, .int .i64 a0_6, .int .i64 a0_7, .int .i64 a0_8, .slice A0_9 l0_9.length c0_9], .int .i64 a1, .int .i64 a2] w fun e w' => e = .returned (.tuple #[.int .i64 r1, .bool r2]) ∧ Below w.heap.size w w' := by
 have hu66 := Try.underlying66;have HR0_9 := Aside0.mk hr0_9;have HC0_9 := Aside0.mk hc0_9;clear hr0_9 hc0_9
 have HB := Aside0.mk (Below.refl w.heap.size w)
 have H : (if a0_3 = 2 then ((sched_is.f (wrap64 (a1 + (wrap64 ((wrap64 ((mn (mx a2 (-1048576)) 1048576) * a0_2)) * 7))))).bind fun t734 => (some (wrap64 (a1 + (wrap64 ((wrap64 ((mn (mx a2 (-1048576)) 1048576) * a0_2)) * 7))), t734))) else (if a0_3 = 1 then ((sched_is.f (wrap64 (a1 + (wrap64 ((mn (mx a2 (-1048576)) 1048576) * a0_2))))).bind fun t735 => (some (wrap64 (a1 + (wrap64 ((mn (mx a2 (-1048576)) 1048576) * a0_2))), t735))) else (if a0_3 = 4 then (sched_point.j0 k a1 (wrap64 ((wrap64 ((mn (mx a2 (-1048576)) 1048576) * a0_2)) * 12)) a0_0 a0_1 a0_2 a0_3 a0_4 a0_5 a0_6 a0_7 a0_8 l0_9) else (sched_point.j0 k a1 (wrap64 ((mn (mx a2 (-1048576)) 1048576) * a0_2)) a0_0 a0_1 a0_2 a0_3 a0_4 a0_5 a0_6 a0_7 a0_8 l0_9)))) = some (r1, r2) := h
 clear h
 obtain ⟨ji4, hji4⟩ : ∃ j_ : Int, (mx a2 (-1048576)) = j_ := ⟨_, rfl⟩
 replace H : (if a0_3 = 2 then ((sched_is.f (wrap64 (a1 + (wrap64 ((wrap64 ((mn (ji4) 1048576) * a0_2)) * 7))))).bind fun t734 => (some (wrap64 (a1 + (wrap64 ((wrap64 ((mn (ji4) 1048576) * a0_2)) * 7))), t734))) else (if a0_3 = 1 then ((sched_is.f (wrap64 (a1 + (wrap64 ((mn (ji4) 1048576) * a0_2))))).bind fun t735 => (some (wrap64 (a1 + (wrap64 ((mn (ji4) 1048576) * a0_2))), t735))) else (if a0_3 = 4 then (sched_point.j0 k a1 (wrap64 ((wrap64 ((mn (ji4) 1048576) * a0_2)) * 12)) a0_0 a0_1 a0_2 a0_3 a0_4 a0_5 a0_6 a0_7 a0_8 l0_9) else (sched_point.j0 k a1 (wrap64 ((mn (ji4) 1048576) * a0_2)) a0_0 a0_1 a0_2 a0_3 a0_4 a0_5 a0_6 a0_7 a0_8 l0_9)))) = some (r1, r2) := by first | (rw [hji4] at H; exact H) | (simp only [hji4] at H ⊢; exact H)
 have hji4_ : (if a2 < (-1048576) then (-1048576) else a2) = ji4 := hji4
 obtain ⟨ji5, hji5⟩ : ∃ j_ : Int, (mn (ji4) 1048576) = j_ := ⟨_, rfl⟩
 replace H : (if a0_3 = 2 then ((sched_is.f (wrap64 (a1 + (wrap64 ((wrap64 ((ji5) * a0_2)) * 7))))).bind fun t734 => (some (wrap64 (a1 + (wrap64 ((wrap64 ((ji5) * a0_2)) * 7))), t734))) else (if a0_3 = 1 then ((sched_is.f (wrap64 (a1 + (wrap64 ((ji5) * a0_2))))).bind fun t735 => (some (wrap64 (a1 + (wrap64 ((ji5) * a0_2))), t735))) else (if a0_3 = 4 then (sched_point.j0 k a1 (wrap64 ((wrap64 ((ji5) * a0_2)) * 12)) a0_0 a0_1 a0_2 a0_3 a0_4 a0_5 a0_6 a0_7 a0_8 l0_9) else (sched_point.j0 k a1 (wrap64 ((ji5) * a0_2)) a0_0 a0_1 a0_2 a0_3 a0_4 a0_5 a0_6 a0_7 a0_8 l0_9)))) = some (r1, r2) := by first | (rw [hji5] at H; exact H) | (simp only [hji5] at H ⊢; exact H)
 have hji5_ : (if 1048576 < (ji4) then 1048576 else (ji4)) = ji5 := hji5
 have HC6 := Aside0.mk H;clear H
 go_enter Try.func88, Try.ntmps88
 go_upto_block 0 with (first | ((with_reducible refine gate_dst (N := 3) rfl ?_); refine box_event ?hg (N := 3) ?hd (cs := #[.int .i64 a0_0, .int .i64 a0_1, .int .i64 a0_2, .int .i64 a0_3, .int .i64 a0_4, .int .i64 a0_5, .int .i64 a0_6, .int .i64 a0_7, .int .i64 a0_8, .slice A0_9 l0_9.length c0_9]) (t := 66) ?hr ?_; (case hd => rfl); (case hg => rfl); (case hr => first | (go_simp; done) | (go_simp; rfl)); intro gb733 hg w7 hbox hb; have n0_ := Aside0.mk (below_step (by repeat (first | (with_reducible first | exact HB.out | apply below_alloc | apply pw_below_drewN | apply below_drew1) | exact HB.out)) hb); have n1_ := Aside0.mk (hbox); have n2_ := Aside0.mk ((by rw [hg]; exact (below_size (by repeat (first | (with_reducible first | exact HB.out | apply below_alloc | apply pw_below_drewN | apply below_drew1) | exact HB.out))) : w.heap.size ≤ gb733)); have n3_ := Aside0.mk ((by rw [hg]; exact (below_size (by repeat (first | (with_reducible first | exact HB.out | apply below_alloc | apply pw_below_drewN | apply below_drew1) | exact HB.out))) : w.heap.size ≤ gb733)); clear HB; have HB := n0_; have BK733 := n1_; have GW733 := n2_; have GE733 := n3_; clear n0_ n1_ n2_ n3_; clear hb hbox hg; have hcz8_0 : w7.cell? ⟨gb733, 0, none⟩ = some (.int .i64 a0_0) := (blk_cell BK733.out 0).trans rfl; have hcz8_1 : w7.cell? ⟨gb733, 1, none⟩ = some (.int .i64 a0_1) := (blk_cell BK733.out 1).trans rfl; have hcz8_2 : w7.cell? ⟨gb733, 2, none⟩ = some (.int .i64 a0_2) := (blk_cell BK733.out 2).trans rfl; have hcz8_3 : w7.cell? ⟨gb733, 3, none⟩ = some (.int .i64 a0_3) := (blk_cell BK733.out 3).trans rfl; have hcz8_4 : w7.cell? ⟨gb733, 4, none⟩ = some (.int .i64 a0_4) := (blk_cell BK733.out 4).trans rfl; have hcz8_5 : w7.cell? ⟨gb733, 5, none⟩ = some (.int .i64 a0_5) := (blk_cell BK733.out 5).trans rfl; have hcz8_6 : w7.cell? ⟨gb733, 6, none⟩ = some (.int .i64 a0_6) := (blk_cell BK733.out 6).trans rfl; have hcz8_7 : w7.cell? ⟨gb733, 7, none⟩ = some (.int .i64 a0_7) := (blk_cell BK733.out 7).trans rfl; have hcz8_8 : w7.cell? ⟨gb733, 8, none⟩ = some (.int .i64 a0_8) := (blk_cell BK733.out 8).trans rfl; have hcz8_9 : w7.cell? ⟨gb733, 9, none⟩ = some (.slice A0_9 l0_9.length c0_9) := (blk_cell BK733.out 9).trans rfl; have hfz8_0 := blk_frozen BK733.out 0; have hfz8_1 := blk_frozen BK733.out 1; have hfz8_2 := blk_frozen BK733.out 2; have hfz8_3 := blk_frozen BK733.out 3; have hfz8_4 := blk_frozen BK733.out 4; have hfz8_5 := blk_frozen BK733.out 5; have hfz8_6 := blk_frozen BK733.out 6; have hfz8_7 := blk_frozen BK733.out 7; have hfz8_8 := blk_frozen BK733.out 8; have hfz8_9 := blk_frozen BK733.out 9))
 (try simp only [Act.put, List.setIfInBounds_toArray, List.set_cons_zero, List.set_cons_succ])
 go_cut [2] (fun v2 wc => ∃ (kq : Nat) (x2_5 : Int), v2 = .int .i64 x2_5 ∧ Aside0 (sched_point.j0 kq a1 x2_5 a0_0 a0_1 a0_2 a0_3 a0_4 a0_5 a0_6 a0_7 a0_8 l0_9 = some (r1, r2)) ∧ Aside0 (kq ≤ k) ∧ Aside0 (wc.heap[gb733]? = some (.cells #[.int .i64 a0_0, .int .i64 a0_1, .int .i64 a0_2, .int .i64 a0_3, .int .i64 a0_4, .int .i64 a0_5, .int .i64 a0_6, .int .i64 a0_7, .int .i64 a0_8, (.slice A0_9 l0_9.length c0_9)] 66 (0, 0))) ∧ Aside0 (Below w.heap.size w wc))
 case first =>
  have H := HC6.out;clear HC6
  by_cases c9 : a0_3 = 2
  ·
   rw [if_pos c9] at H
   have c9b0 : (a0_3 == 2) = true := beq_iff_eq.mpr c9
   have c9b1 : (a0_3 != 2) = false := bne_eq_false_iff_eq.mpr c9
   clear c9
   (first | rw [c9b0] | (simp only [i64_w, i32_w]; rw [c9b0]) | skip)
   replace H := Option.bind_eq_some_iff.mp H
   obtain ⟨t734, A100, H⟩ := H
   replace H : (some (wrap64 (a1 + (wrap64 ((wrap64 ((ji5) * a0_2)) * 7))), t734)) = some (r1, r2) := H
   have A10 := Aside0.mk A100;clear A100
   simp only [Option.some.injEq, Prod.mk.injEq] at H
   obtain ⟨rfl, rfl⟩ := H
   go_wp2_with (first | ((with_reducible refine gate_callee (f := 90) rfl ?_); refine goesL_ (some 38) rfl rfl Try.func90 (by kernel_rfl) rfl #[.int .i64 (wrap64 (a1 + (wrap64 ((wrap64 ((ji5) * a0_2)) * 7))))] rfl (by (try simp only [List.map_toArray, List.map_cons, List.map_nil]); first | done | (simp only [hji5]; rfl) | rfl | (simp only [List.length_drop, List.length_take]; rfl)) ?_; (with_reducible refine (sched_is.calls (wrap64 (a1 + (wrap64 ((wrap64 ((ji5) * a0_2)) * 7)))) t734 _ A10.out).mono ?_); rintro e w' ⟨rfl, ⟨nd, rfl⟩⟩; refine ⟨_, rfl, ?_⟩))
   go_ret2
   exact ⟨by first | rfl | (simp [errW_none, errW_some] <;> rfl) | (simp only [← hji4, ← hji5]; first | rfl | (simp [errW_none, errW_some] <;> rfl)) | (simp [*, errW_none, errW_some] <;> rfl), by repeat (first | (with_reducible first | exact HB.out | apply below_alloc | apply pw_below_drewN | apply below_drew1 | refine below_set ?_ GE733.out) | exact HB.out)⟩
  ·
   rw [if_neg c9] at H
   have c9b0 : (a0_3 == 2) = false := beq_eq_false_iff_ne.mpr c9
   have c9b1 : (a0_3 != 2) = true := bne_iff_ne.mpr c9
   (first | rw [c9b0] | (simp only [i64_w, i32_w]; rw [c9b0]) | skip)
   by_cases c11 : a0_3 = 1
   ·
    rw [if_pos c11] at H
    have c11b0 : (a0_3 == 1) = true := beq_iff_eq.mpr c11
    have c11b1 : (a0_3 != 1) = false := bne_eq_false_iff_eq.mpr c11
    clear c11;replace H := Option.bind_eq_some_iff.mp H
    obtain ⟨t735, A120, H⟩ := H
    replace H : (some (wrap64 (a1 + (wrap64 ((ji5) * a0_2))), t735)) = some (r1, r2) := H
    have A12 := Aside0.mk A120;clear A120
    simp only [Option.some.injEq, Prod.mk.injEq] at H
    obtain ⟨rfl, rfl⟩ := H
    go_wp2_with (first | ((with_reducible refine gate_callee (f := 90) rfl ?_); refine goesL_ (some 38) rfl rfl Try.func90 (by kernel_rfl) rfl #[.int .i64 (wrap64 (a1 + (wrap64 ((ji5) * a0_2))))] rfl (by (try simp only [List.map_toArray, List.map_cons, List.map_nil]); first | done | (simp only [hji5]; rfl) | rfl | (simp only [List.length_drop, List.length_take]; rfl)) ?_; (with_reducible refine (sched_is.calls (wrap64 (a1 + (wrap64 ((ji5) * a0_2)))) t735 _ A12.out).mono ?_); rintro e w' ⟨rfl, ⟨nd, rfl⟩⟩; refine ⟨_, rfl, ?_⟩))
    go_ret2
    exact ⟨by first | rfl | (simp [errW_none, errW_some] <;> rfl) | (simp only [← hji4, ← hji5]; first | rfl | (simp [errW_none, errW_some] <;> rfl)) | (simp [*, errW_none, errW_some] <;> rfl), by repeat (first | (with_reducible first | exact HB.out | apply below_alloc | apply pw_below_drewN | apply below_drew1 | refine below_set ?_ GE733.out) | exact HB.out)⟩
   ·
    rw [if_neg c11] at H
    have c11b0 : (a0_3 == 1) = false := beq_eq_false_iff_ne.mpr c11
    have c11b1 : (a0_3 != 1) = true := bne_iff_ne.mpr c11
    by_cases c13 : a0_3 = 4
    ·
     rw [if_pos c13] at H
     have c13b0 : (a0_3 == 4) = true := beq_iff_eq.mpr c13
     have c13b1 : (a0_3 != 4) = false := bne_eq_false_iff_eq.mpr c13
     clear c13;have H' := Aside0.mk H;clear H
     go_wp2
     go_meet
     case rel => exact ⟨_, (wrap64 ((wrap64 ((ji5) * a0_2)) * 12)), (by first | rfl | (simp; done) | (simp only [← hji5] <;> (first | rfl | simp)) | (simp [*]; done)), H', ⟨by first | omega | exact Nat.le_refl _⟩, ⟨by (with_reducible repeat (first | refine blk_drewN ?_ _ | refine blk_drew ?_ | refine blk_alloc ?_ _)); exact BK733.out⟩, ⟨by repeat (first | (with_reducible first | exact HB.out | apply below_alloc | apply pw_below_drewN | apply below_drew1 | refine below_set ?_ GE733.out) | exact HB.out)⟩⟩
    ·
     rw [if_neg c13] at H
     have c13b0 : (a0_3 == 4) = false := beq_eq_false_iff_ne.mpr c13
     have c13b1 : (a0_3 != 4) = true := bne_iff_ne.mpr c13
     have H' := Aside0.mk H;clear H
     go_wp2
     go_meet
     case rel => exact ⟨_, (wrap64 ((ji5) * a0_2)), (by first | rfl | (simp; done) | (simp only [← hji5] <;> (first | rfl | simp)) | (simp [*]; done)), H', ⟨by first | omega | exact Nat.le_refl _⟩, ⟨by (with_reducible repeat (first | refine blk_drewN ?_ _ | refine blk_drew ?_ | refine blk_alloc ?_ _)); exact BK733.out⟩, ⟨by repeat (first | (with_reducible first | exact HB.out | apply below_alloc | apply pw_below_drewN | apply below_drew1 | refine below_set ?_ GE733.out) | exact HB.out)⟩⟩
 case rest =>
  clear HC6
  obtain ⟨kq, x2_5, rfl, HA, HJ5, BK733, HB⟩ := hcut
  cases kq with
  | zero => exact absurd HA.out (by simp [sched_point.j0])
  | succ kj5 =>
   have H := HA.out;clear HA
   simp only [sched_point.j0] at H
   replace H := Option.bind_eq_some_iff.mp H
   obtain ⟨⟨t736, t737⟩, A140, H⟩ := H
   replace H : (if t737 = 0 then ((date_Civil.f kj5 t736).bind fun bt738 => (if a0_5 = 1 then ((date_Length.f bt738.1 bt738.2.1).bind fun bt742 => ((date_Of.f kj5 bt738.1 bt738.2.1 bt742.1).bind fun bt744 => (some (bt744.1, true)))) else (if a0_5 = 2 then ((date_Third.f kj5 bt738.1 bt738.2.1).bind fun bt746 => (some (bt746.1, true))) else (some (t736, true))))) else (some (0, false))) = some (r1, r2) := H
   have A14 := Aside0.mk A140;clear A140
   by_cases c15 : t737 = 0
   ·
    rw [if_pos c15] at H
    have c15b0 : (t737 == 0) = true := beq_iff_eq.mpr c15
    have c15b1 : (t737 != 0) = false := bne_eq_false_iff_eq.mpr c15
    clear c15;replace H := Option.bind_eq_some_iff.mp H
    obtain ⟨⟨t738, t739, t740, t741⟩, A160, H⟩ := H
    replace H : (if a0_5 = 1 then ((date_Length.f t738 t739).bind fun bt742 => ((date_Of.f kj5 t738 t739 bt742.1).bind fun bt744 => (some (bt744.1, true)))) else (if a0_5 = 2 then ((date_Third.f kj5 t738 t739).bind fun bt746 => (some (bt746.1, true))) else (some (t736, true)))) = some (r1, r2) := H
    have A16 := Aside0.mk A160;clear A160
    by_cases c17 : a0_5 = 1
    ·
     rw [if_pos c17] at H
     have c17b0 : (a0_5 == 1) = true := beq_iff_eq.mpr c17
     have c17b1 : (a0_5 != 1) = false := bne_eq_false_iff_eq.mpr c17
     clear c17;replace H := Option.bind_eq_some_iff.mp H
     obtain ⟨⟨t742, t743⟩, A180, H⟩ := H
     replace H : ((date_Of.f kj5 t738 t739 t742).bind fun bt744 => (some (bt744.1, true))) = some (r1, r2) := H
     have A18 := Aside0.mk A180;clear A180;replace H := Option.bind_eq_some_iff.mp H
     obtain ⟨⟨t744, t745⟩, A190, H⟩ := H
     replace H : (some (t744, true)) = some (r1, r2) := H
     have A19 := Aside0.mk A190;clear A190
     simp only [Option.some.injEq, Prod.mk.injEq] at H
     obtain ⟨rfl, rfl⟩ := H
     go_wp2_with (first | ((with_reducible refine gate_callee (f := 112) rfl ?_); refine goesL_ (some 44) rfl rfl Try.func112 (by kernel_rfl) rfl #[.int .i64 a1, .int .i64 x2_5, .bool false] rfl (by (try simp only [List.map_toArray, List.map_cons, List.map_nil]); first | done | rfl | (simp only [List.length_drop, List.length_take]; rfl)) ?_; (with_reducible refine (date_Months.calls kj5 a1 x2_5 false t736 t737 _ A14.out).mono ?_); rintro e w' ⟨rfl, ⟨nd, rfl⟩⟩; refine ⟨_, rfl, ?_⟩) | ((with_reducible refine gate_callee (f := 93) rfl ?_); refine goesL_ (some 51) rfl rfl Try.func93 (by kernel_rfl) rfl #[.int .i64 t736] rfl (by (try simp only [List.map_toArray, List.map_cons, List.map_nil]); first | done | rfl | (simp only [List.length_drop, List.length_take]; rfl)) ?_; (with_reducible refine (date_Civil.calls kj5 t736 t738 t739 t740 t741 _ A16.out).mono ?_); rintro e w' ⟨rfl, ⟨nd, rfl⟩⟩; refine ⟨_, rfl, ?_⟩; have hcz20_0 : wc.cell? ⟨gb733, 0, none⟩ = some (.int .i64 a0_0) := (blk_cell BK733.out 0).trans rfl; have hcz20_1 : wc.cell? ⟨gb733, 1, none⟩ = some (.int .i64 a0_1) := (blk_cell BK733.out 1).trans rfl; have hcz20_2 : wc.cell? ⟨gb733, 2, none⟩ = some (.int .i64 a0_2) := (blk_cell BK733.out 2).trans rfl; have hcz20_3 : wc.cell? ⟨gb733, 3, none⟩ = some (.int .i64 a0_3) := (blk_cell BK733.out 3).trans rfl; have hcz20_4 : wc.cell? ⟨gb733, 4, none⟩ = some (.int .i64 a0_4) := (blk_cell BK733.out 4).trans rfl; have hcz20_5 : wc.cell? ⟨gb733, 5, none⟩ = some (.int .i64 a0_5) := (blk_cell BK733.out 5).trans rfl; have hcz20_6 : wc.cell? ⟨gb733, 6, none⟩ = some (.int .i64 a0_6) := (blk_cell BK733.out 6).trans rfl; have hcz20_7 : wc.cell? ⟨gb733, 7, none⟩ = some (.int .i64 a0_7) := (blk_cell BK733.out 7).trans rfl; have hcz20_8 : wc.cell? ⟨gb733, 8, none⟩ = some (.int .i64 a0_8) := (blk_cell BK733.out 8).trans rfl; have hcz20_9 : wc.cell? ⟨gb733, 9, none⟩ = some (.slice A0_9 l0_9.length c0_9) := (blk_cell BK733.out 9).trans rfl; have hfz20_0 := blk_frozen BK733.out 0; have hfz20_1 := blk_frozen BK733.out 1; have hfz20_2 := blk_frozen BK733.out 2; have hfz20_3 := blk_frozen BK733.out 3; have hfz20_4 := blk_frozen BK733.out 4; have hfz20_5 := blk_frozen BK733.out 5; have hfz20_6 := blk_frozen BK733.out 6; have hfz20_7 := blk_frozen BK733.out 7; have hfz20_8 := blk_frozen BK733.out 8; have hfz20_9 := blk_frozen BK733.out 9) | ((with_reducible refine gate_callee (f := 113) rfl ?_); refine goesL_ (some 63) rfl rfl Try.func113 (by kernel_rfl) rfl #[.int .i64 t738, .int .i64 t739] rfl (by (try simp only [List.map_toArray, List.map_cons, List.map_nil]); first | done | rfl | (simp only [List.length_drop, List.length_take]; rfl)) ?_; (with_reducible refine (date_Length.calls t738 t739 t742 t743 _ A18.out).mono ?_); rintro e w' ⟨rfl, ⟨nd, rfl⟩⟩; refine ⟨_, rfl, ?_⟩) | ((with_reducible refine gate_callee (f := 95) rfl ?_); refine goesL_ (some 70) rfl rfl Try.func95 (by kernel_rfl) rfl #[.int .i64 t738, .int .i64 t739, .int .i64 t742] rfl (by (try simp only [List.map_toArray, List.map_cons, List.map_nil]); first | done | rfl | (simp only [List.length_drop, List.length_take]; rfl)) ?_; (with_reducible refine (date_Of.calls kj5 t738 t739 t742 t744 t745 _ A19.out).mono ?_); rintro e w' ⟨rfl, ⟨nd, rfl⟩⟩; refine ⟨_, rfl, ?_⟩))
     go_ret2
     exact ⟨by first | rfl | (simp [errW_none, errW_some] <;> rfl) | (simp only [← hji4, ← hji5]; first | rfl | (simp [errW_none, errW_some] <;> rfl)) | (simp [*, errW_none, errW_some] <;> rfl), by repeat (first | (with_reducible first | exact HB.out | apply below_alloc | apply pw_below_drewN | apply below_drew1 | refine below_set ?_ GE733.out) | exact HB.out)⟩
    ·
     rw [if_neg c17] at H
     have c17b0 : (a0_5 == 1) = false := beq_eq_false_iff_ne.mpr c17
     have c17b1 : (a0_5 != 1) = true := bne_iff_ne.mpr c17
     by_cases c21 : a0_5 = 2
     ·
      rw [if_pos c21] at H
      have c21b0 : (a0_5 == 2) = true := beq_iff_eq.mpr c21
      have c21b1 : (a0_5 != 2) = false := bne_eq_false_iff_eq.mpr c21
      clear c21;replace H := Option.bind_eq_some_iff.mp H
      obtain ⟨⟨t746, t747⟩, A220, H⟩ := H
      replace H : (some (t746, true)) = some (r1, r2) := H
      have A22 := Aside0.mk A220;clear A220
      simp only [Option.some.injEq, Prod.mk.injEq] at H
      obtain ⟨rfl, rfl⟩ := H
      go_wp2_with (first | ((with_reducible refine gate_callee (f := 112) rfl ?_); refine goesL_ (some 44) rfl rfl Try.func112 (by kernel_rfl) rfl #[.int .i64 a1, .int .i64 x2_5, .bool false] rfl (by (try simp only [List.map_toArray, List.map_cons, List.map_nil]); first | done | rfl | (simp only [List.length_drop, List.length_take]; rfl)) ?_; (with_reducible refine (date_Months.calls kj5 a1 x2_5 false t736 t737 _ A14.out).mono ?_); rintro e w' ⟨rfl, ⟨nd, rfl⟩⟩; refine ⟨_, rfl, ?_⟩) | ((with_reducible refine gate_callee (f := 93) rfl ?_); refine goesL_ (some 51) rfl rfl Try.func93 (by kernel_rfl) rfl #[.int .i64 t736] rfl (by (try simp only [List.map_toArray, List.map_cons, List.map_nil]); first | done | rfl | (simp only [List.length_drop, List.length_take]; rfl)) ?_; (with_reducible refine (date_Civil.calls kj5 t736 t738 t739 t740 t741 _ A16.out).mono ?_); rintro e w' ⟨rfl, ⟨nd, rfl⟩⟩; refine ⟨_, rfl, ?_⟩; have hcz23_0 : wc.cell? ⟨gb733, 0, none⟩ = some (.int .i64 a0_0) := (blk_cell BK733.out 0).trans rfl; have hcz23_1 : wc.cell? ⟨gb733, 1, none⟩ = some (.int .i64 a0_1) := (blk_cell BK733.out 1).trans rfl; have hcz23_2 : wc.cell? ⟨gb733, 2, none⟩ = some (.int .i64 a0_2) := (blk_cell BK733.out 2).trans rfl; have hcz23_3 : wc.cell? ⟨gb733, 3, none⟩ = some (.int .i64 a0_3) := (blk_cell BK733.out 3).trans rfl; have hcz23_4 : wc.cell? ⟨gb733, 4, none⟩ = some (.int .i64 a0_4) := (blk_cell BK733.out 4).trans rfl; have hcz23_5 : wc.cell? ⟨gb733, 5, none⟩ = some (.int .i64 a0_5) := (blk_cell BK733.out 5).trans rfl; have hcz23_6 : wc.cell? ⟨gb733, 6, none⟩ = some (.int .i64 a0_6) := (blk_cell BK733.out 6).trans rfl; have hcz23_7 : wc.cell? ⟨gb733, 7, none⟩ = some (.int .i64 a0_7) := (blk_cell BK733.out 7).trans rfl; have hcz23_8 : wc.cell? ⟨gb733, 8, none⟩ = some (.int .i64 a0_8) := (blk_cell BK733.out 8).trans rfl; have hcz23_9 : wc.cell? ⟨gb733, 9, none⟩ = some (.slice A0_9 l0_9.length c0_9) := (blk_cell BK733.out 9).trans rfl; have hfz23_0 := blk_frozen BK733.out 0; have hfz23_1 := blk_frozen BK733.out 1; have hfz23_2 := blk_frozen BK733.out 2; have hfz23_3 := blk_frozen BK733.out 3; have hfz23_4 := blk_frozen BK733.out 4; have hfz23_5 := blk_frozen BK733.out 5; have hfz23_6 := blk_frozen BK733.out 6; have hfz23_7 := blk_frozen BK733.out 7; have hfz23_8 := blk_frozen BK733.out 8; have hfz23_9 := blk_frozen BK733.out 9) | ((with_reducible refine gate_callee (f := 114) rfl ?_); refine goesL_ (some 78) rfl rfl Try.func114 (by kernel_rfl) rfl #[.int .i64 t738, .int .i64 t739] rfl (by (try simp only [List.map_toArray, List.map_cons, List.map_nil]); first | done | rfl | (simp only [List.length_drop, List.length_take]; rfl)) ?_; (with_reducible refine (date_Third.calls kj5 t738 t739 t746 t747 _ A22.out).mono ?_); rintro e w' ⟨rfl, ⟨nd, rfl⟩⟩; refine ⟨_, rfl, ?_⟩))
      go_ret2
      exact ⟨by first | rfl | (simp [errW_none, errW_some] <;> rfl) | (simp only [← hji4, ← hji5]; first | rfl | (simp [errW_none, errW_some] <;> rfl)) | (simp [*, errW_none, errW_some] <;> rfl), by repeat (first | (with_reducible first | exact HB.out | apply below_alloc | apply pw_below_drewN | apply below_drew1 | refine below_set ?_ GE733.out) | exact HB.out)⟩
     ·
      rw [if_neg c21] at H
      have c21b0 : (a0_5 == 2) = false := beq_eq_false_iff_ne.mpr c21
      have c21b1 : (a0_5 != 2) = true := bne_iff_ne.mpr c21
      simp only [Option.some.injEq, Prod.mk.injEq] at H
      obtain ⟨rfl, rfl⟩ := H
      go_wp2_with (first | ((with_reducible refine gate_callee (f := 112) rfl ?_); refine goesL_ (some 44) rfl rfl Try.func112 (by kernel_rfl) rfl #[.int .i64 a1, .int .i64 x2_5, .bool false] rfl (by (try simp only [List.map_toArray, List.map_cons, List.map_nil]); first | done | rfl | (simp only [List.length_drop, List.length_take]; rfl)) ?_; (with_reducible refine (date_Months.calls kj5 a1 x2_5 false t736 t737 _ A14.out).mono ?_); rintro e w' ⟨rfl, ⟨nd, rfl⟩⟩; refine ⟨_, rfl, ?_⟩) | ((with_reducible refine gate_callee (f := 93) rfl ?_); refine goesL_ (some 51) rfl rfl Try.func93 (by kernel_rfl) rfl #[.int .i64 t736] rfl (by (try simp only [List.map_toArray, List.map_cons, List.map_nil]); first | done | rfl | (simp only [List.length_drop, List.length_take]; rfl)) ?_; (with_reducible refine (date_Civil.calls kj5 t736 t738 t739 t740 t741 _ A16.out).mono ?_); rintro e w' ⟨rfl, ⟨nd, rfl⟩⟩; refine ⟨_, rfl, ?_⟩; have hcz24_0 : wc.cell? ⟨gb733, 0, none⟩ = some (.int .i64 a0_0) := (blk_cell BK733.out 0).trans rfl; have hcz24_1 : wc.cell? ⟨gb733, 1, none⟩ = some (.int .i64 a0_1) := (blk_cell BK733.out 1).trans rfl; have hcz24_2 : wc.cell? ⟨gb733, 2, none⟩ = some (.int .i64 a0_2) := (blk_cell BK733.out 2).trans rfl; have hcz24_3 : wc.cell? ⟨gb733, 3, none⟩ = some (.int .i64 a0_3) := (blk_cell BK733.out 3).trans rfl; have hcz24_4 : wc.cell? ⟨gb733, 4, none⟩ = some (.int .i64 a0_4) := (blk_cell BK733.out 4).trans rfl; have hcz24_5 : wc.cell? ⟨gb733, 5, none⟩ = some (.int .i64 a0_5) := (blk_cell BK733.out 5).trans rfl; have hcz24_6 : wc.cell? ⟨gb733, 6, none⟩ = some (.int .i64 a0_6) := (blk_cell BK733.out 6).trans rfl; have hcz24_7 : wc.cell? ⟨gb733, 7, none⟩ = some (.int .i64 a0_7) := (blk_cell BK733.out 7).trans rfl; have hcz24_8 : wc.cell? ⟨gb733, 8, none⟩ = some (.int .i64 a0_8) := (blk_cell BK733.out 8).trans rfl; have hcz24_9 : wc.cell? ⟨gb733, 9, none⟩ = some (.slice A0_9 l0_9.length c0_9) := (blk_cell BK733.out 9).trans rfl; have hfz24_0 := blk_frozen BK733.out 0; have hfz24_1 := blk_frozen BK733.out 1; have hfz24_2 := blk_frozen BK733.out 2; have hfz24_3 := blk_frozen BK733.out 3; have hfz24_4 := blk_frozen BK733.out 4; have hfz24_5 := blk_frozen BK733.out 5; have hfz24_6 := blk_frozen BK733.out 6; have hfz24_7 := blk_frozen BK733.out 7; have hfz24_8 := blk_frozen BK733.out 8; have hfz24_9 := blk_frozen BK733.out 9))
      go_ret2
      exact ⟨by first | rfl | (simp [errW_none, errW_some] <;> rfl) | (simp only [← hji4, ← hji5]; first | rfl | (simp [errW_none, errW_some] <;> rfl)) | (simp [*, errW_none, errW_some] <;> rfl), by repeat (first | (with_reducible first | exact HB.out | apply below_alloc | apply pw_below_drewN | apply below_drew1 | refine below_set ?_ GE733.out) | exact HB.out)⟩
   ·
    rw [if_neg c15] at H
    have c15b0 : (t737 == 0) = false := beq_eq_false_iff_ne.mpr c15
    have c15b1 : (t737 != 0) = true := bne_iff_ne.mpr c15
    simp only [Option.some.injEq, Prod.mk.injEq] at H
    obtain ⟨rfl, rfl⟩ := H
    go_wp2_with (first | ((with_reducible refine gate_callee (f := 112) rfl ?_); refine goesL_ (some 44) rfl rfl Try.func112 (by kernel_rfl) rfl #[.int .i64 a1, .int .i64 x2_5, .bool false] rfl (by (try simp only [List.map_toArray, List.map_cons, List.map_nil]); first | done | rfl | (simp only [List.length_drop, List.length_take]; rfl)) ?_; (with_reducible refine (date_Months.calls kj5 a1 x2_5 false t736 t737 _ A14.out).mono ?_); rintro e w' ⟨rfl, ⟨nd, rfl⟩⟩; refine ⟨_, rfl, ?_⟩))
    go_ret2
    exact ⟨by first | rfl | (simp [errW_none, errW_some] <;> rfl) | (simp only [← hji4, ← hji5]; first | rfl | (simp [errW_none, errW_some] <;> rfl)) | (simp [*, errW_none, errW_some] <;> rfl), by repeat (first | (with_reducible first | exact HB.out | apply below_alloc | apply pw_below_drewN | apply below_drew1 | refine below_set ?_ GE733.out) | exact HB.out)⟩
end Go.Proofs.Ytoncignjcgjhhaa.Q
namespace Go.Proofs.YtoncignjcgjhhaaW.PrintWords
open Go.RowKit
namespace Kd
section
variable {α : Type} {P : Program} {ops : Array Oper} {rest : List Oper} {o : Oper} {a : Act} {Q : Exit → Act → World → Prop}
theorem R_make0 (d : Kd α) {w0 W : World} (base e : Nat) (hgd : o.guard = none) {N : Tmp} (hd : o.dst = some N) (t : TypeId) (x y : Operand) (ho : o.op = .makeSlice t x y) (n : Int) (hx : a.eval x = .int .i64 0) (hy : a.eval y = .int .i64 n)
  (ht : P.underlying t = some (.slice e)) (z : Value) (bytes : Nat) (hinfo : (P.info? e).map (fun i => (i.zero, i.size, i.bytes)) = some (some z, d.sz, bytes)) (hz : z.cells.size = d.sz) (hs0 : 0 < d.sz) (hb0 : 0 < bytes)
  (z0 : α) {ok okp : Nat → Prop} (hzero : d.M W base okp z0 z.cells.toList) (hok : ∀ k, okp k → ok k) (hfresh : ok W.heap.size) (h0 : 0 ≤ n) (hl : n.toNat * bytes ≤ 281474976710656) (HB : Below base w0 W) (hbase : base ≤ W.heap.size)
  (h : ∀ v1 w1, d.R e w1 base ok v1 (List.replicate 0 z0) → Below base w0 w1 → W.grownBy w1 none → (∃ b, v1.ownBlock = some b ∧ W.heap.size ≤ b) → wpList P ops Q rest (a.put o.dst v1) w1) : wpList P ops Q (o :: rest) a W := by
 obtain ⟨m, rfl⟩ := Int.eq_ofNat_of_zero_le h0
 simp only [Int.toNat_natCast] at hl
 obtain ⟨i0, hi, hzz⟩ := Option.map_eq_some_iff.1 hinfo
 simp only [Prod.mk.injEq] at hzz
 obtain ⟨hz0, hz1, hz2⟩ := hzz
 have hm : m ≤ 281474976710656 := Nat.le_trans (Nat.le_mul_of_pos_right _ hb0) hl
 have hbs : (i0.bytes : Int) * (m : Int) ≤ 281474976710656 := by
  have h3 : ((i0.bytes * m : Nat) : Int) ≤ 281474976710656 := by rw [hz2, Nat.mul_comm]; omega
  rwa [Int.natCast_mul] at h3
 have hr := run_make (P := P) W t e i0 z ht hi hz0 .i64 .i64 0 (m : Int) (Int.le_refl _) (by omega) hbs (by omega)
 simp only [Int.toNat_natCast, Int.toNat_zero] at hr
 have hrun : (execOp a.eval o).run P W = .ok (.value (.slice (some ⟨W.heap.size, 0, none⟩) 0 m)) (W.alloc (.cells (madeCells z.cells (m * i0.size)) e)) := by
  simp [execOp, ho, hx, hy, hr]
 refine event_run hgd hrun (h _ _ ⟨fun k hk => ?_, [], ?_, Reps.none _ _⟩ (HB.alloc hbase _) (World.grownBy_alloc W _ none) ⟨W.heap.size, by simp [Value.ownBlock], Nat.le_refl _⟩)
 ·
  have : W.heap.size = k := by simpa [Value.ownBlock] using hk
  subst this
  exact hfresh
 ·
  rw [hz1]
  exact ⟨by simp, .inr ⟨W.heap.size, m, _, rfl, hbase, heap_alloc_new W _, Nat.zero_le _, by simp only [maxLen]; omega, size_madeCells _ _, by simp⟩⟩
end
end Kd
end Go.Proofs.YtoncignjcgjhhaaW.PrintWords
