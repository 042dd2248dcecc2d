/- Contracts and facts of functions of the program (calendar, dates and their documents), joined in one text by a program of this session. No condition but what each theorem states. -/
import Derived.Test.YtoncignjcgjhhaaLGA
import Derived.Test.YtoncignjcgjhhaaLGC
set_option linter.unusedVariables false
set_option linter.unusedSimpArgs false
namespace Go.Proofs.Ytoncignjcgjhhaa.Q
open Go.RowKit Go.Proofs.YtoncignjcgjhhaaW.PrintWords Go.Proofs.YtoncignjcgjhhaaW.PrintLast Go.Proofs.YtoncignjcgjhhaaW.PrintMore
attribute [local go_sem] max2_int min2_int max_two min_two max_three min_three max_four min_four   -- for this text's walks alone
def tenorref6_in.f (a0 a1 a2 : Int) : Option (Bool) := if a0 ≥ a1 then (some (decide (a0 ≤ a2))) else (some false)
set_option maxHeartbeats 8000000 in
set_option maxRecDepth 100000 in
theorem tenorref6_in.calls (a0 a1 a2 : Int) (r : Bool) (w : World) (h : tenorref6_in.f a0 a1 a2 = some r) :
  Calls Try.prog 79 #[.int .i64 a0, .int .i64 a1, .int .i64 a2] w fun e w' => e = .returned (.bool r) ∧ Drawn0 w w' := by
 have H : (if a0 ≥ a1 then (some (decide (a0 ≤ a2))) else (some false)) = some r := h
 clear h
 by_cases c4 : a0 ≥ a1
 ·
  rw [if_pos c4] at H
  have c4b0 : decide (a1 ≤ a0) = true := decide_eq_true c4
  clear c4
  obtain rfl := Option.some.inj H
  go_enter Try.func79, Try.ntmps79
  go_wp2
  go_ret
  exact ⟨eS, eD⟩
 ·
  rw [if_neg c4] at H
  have c4b0 : decide (a1 ≤ a0) = false := decide_eq_false c4
  clear c4
  obtain rfl := Option.some.inj H
  go_enter Try.func79, Try.ntmps79
  go_wp2
  go_ret
  exact ⟨eS, eD⟩
end Go.Proofs.Ytoncignjcgjhhaa.Q
namespace Go.Proofs.Ytoncignjcgjhhaa.Q
open Go.RowKit Go.Proofs.YtoncignjcgjhhaaW.PrintWords Go.Proofs.YtoncignjcgjhhaaW.PrintLast Go.Proofs.YtoncignjcgjhhaaW.PrintMore
attribute [local go_sem] max2_int min2_int max_two min_two max_three min_three max_four min_four   -- for this text's walks alone
theorem eqA63 (d : Nat) (w : World) (x0 y0 x1 y1 x2 y2 x3 y3 x4 y4 x5 y5 x6 y6 x7 y7 x8 y8 : Int) :
  (Op.equalIn (d + 2) 63 (.agg #[.int .i64 x0, .int .i64 x1, .int .i64 x2, .int .i64 x3, .int .i64 x4, .int .i64 x5, .int .i64 x6, .int .i64 x7, .int .i64 x8]) (.agg #[.int .i64 y0, .int .i64 y1, .int .i64 y2, .int .i64 y3, .int .i64 y4, .int .i64 y5, .int .i64 y6, .int .i64 y7, .int .i64 y8])).run Try.prog w = .ok (x0 == y0 && (x1 == y1 && (x2 == y2 && (x3 == y3 && (x4 == y4 && (x5 == y5 && (x6 == y6 && (x7 == y7 && (x8 == y8))))))))) w := by
 refine eqA_of Try.underlying63 (by kernel_rfl) ?_
 refine eqf_cons (by rfl) (by go_simp; rfl) (by go_simp; rfl) (by go_simp) ?_
 refine eqf_cons (by rfl) (by go_simp; rfl) (by go_simp; rfl) (by go_simp) ?_
 refine eqf_cons (by rfl) (by go_simp; rfl) (by go_simp; rfl) (by go_simp) ?_
 refine eqf_cons (by rfl) (by go_simp; rfl) (by go_simp; rfl) (by go_simp) ?_
 refine eqf_cons (by rfl) (by go_simp; rfl) (by go_simp; rfl) (by go_simp) ?_
 refine eqf_cons (by rfl) (by go_simp; rfl) (by go_simp; rfl) (by go_simp) ?_
 refine eqf_cons (by rfl) (by go_simp; rfl) (by go_simp; rfl) (by go_simp) ?_
 refine eqf_cons (by rfl) (by go_simp; rfl) (by go_simp; rfl) (by go_simp) ?_
 exact eqf_last (by rfl) (by go_simp; rfl) (by go_simp; rfl) (by go_simp)
end Go.Proofs.Ytoncignjcgjhhaa.Q
namespace Go.Proofs.Ytoncignjcgjhhaa.H
open Go.RowKit Go.Maps Go.Proofs.YtoncignjcgjhhaaW.PrintWords Go.Proofs.YtoncignjcgjhhaaW.PrintLast Go.Proofs.YtoncignjcgjhhaaW.PrintMore
open Go.Proofs.Ytoncignjcgjhhaa.Q (S63 k63 z63 eqA63)
attribute [local go_sem high] eqA63
theorem in6_calls (a b c : Int) (r : Bool) (hr : decide (b ≤ a ∧ a ≤ c) = r) (w : World) :
  Calls Try.prog 79 #[.int .i64 a, .int .i64 b, .int .i64 c] w fun e w' => e = .returned (.bool r) ∧ Drawn0 w w' :=
 Q.tenorref6_in.calls a b c r w (by have := L.within a b c; unfold Q.cal_within.f at this; unfold Q.tenorref6_in.f; rw [this, hr])
def Fits (b : Bool) (w : World) (e : Ending) (w' : World) : Prop := e = .returned (.bool b) ∧ Below w.heap.size w w'
set_option maxHeartbeats 1000000 in
set_option maxRecDepth 100000 in
theorem fit_4 (a1 a2 a3 a4 a5 a6 a7 a8 : Int) (w : World) (b : Bool) (hb : decide (0 ≤ a2 ∧ a2 ≤ 109572) = b) (hz : a1 = 0 ∧ a3 = 0 ∧ a4 = 0 ∧ a5 = 0 ∧ a6 = 0 ∧ a7 = 0 ∧ a8 = 0) :
  Calls Try.prog 85 #[.agg #[.int .i64 4, .int .i64 a1, .int .i64 a2, .int .i64 a3, .int .i64 a4, .int .i64 a5, .int .i64 a6, .int .i64 a7, .int .i64 a8]] w (Fits b w) := by
 obtain ⟨rfl, rfl, rfl, rfl, rfl, rfl, rfl⟩ := hz
 go_enter Try.func85, Try.ntmps85
 go_wp2_with (go_at_call 79; refine (in6_calls _ _ _ _ (by assumption) _).mono ?_; rintro e w' ⟨rfl, ⟨n0, rfl⟩⟩)
 go_ret
 exact ⟨rfl, by repeat (with_reducible first | exact Below.refl _ _ | apply pw_below_drewN | apply below_drew1 | apply below_alloc | refine below_set ?_ (by simp))⟩
set_option maxHeartbeats 2000000 in
set_option maxRecDepth 100000 in
theorem fit_4n0 (a1 a2 a3 a4 a5 a6 a7 a8 : Int) (w : World) (hz : ¬ a1 = 0) : Calls Try.prog 85 #[.agg #[.int .i64 4, .int .i64 a1, .int .i64 a2, .int .i64 a3, .int .i64 a4, .int .i64 a5, .int .i64 a6, .int .i64 a7, .int .i64 a8]] w (Fits false w) := by
 have kz : (a1 == 0) = false := by simpa using hz
 clear hz
 go_enter Try.func85, Try.ntmps85
 go_wp2_with (go_at_call 79; refine (in6_calls _ _ _ _ (by assumption) _).mono ?_; rintro e w' ⟨rfl, ⟨n0, rfl⟩⟩)
 go_ret
 exact ⟨rfl, by repeat (with_reducible first | exact Below.refl _ _ | apply pw_below_drewN | apply below_drew1 | apply below_alloc | refine below_set ?_ (by simp))⟩
set_option maxHeartbeats 2000000 in
set_option maxRecDepth 100000 in
theorem fit_4n1 (a2 a3 a4 a5 a6 a7 a8 : Int) (w : World) (hz : ¬ a3 = 0) : Calls Try.prog 85 #[.agg #[.int .i64 4, .int .i64 0, .int .i64 a2, .int .i64 a3, .int .i64 a4, .int .i64 a5, .int .i64 a6, .int .i64 a7, .int .i64 a8]] w (Fits false w) := by
 have kz : (a3 == 0) = false := by simpa using hz
 clear hz
 go_enter Try.func85, Try.ntmps85
 go_wp2_with (go_at_call 79; refine (in6_calls _ _ _ _ (by assumption) _).mono ?_; rintro e w' ⟨rfl, ⟨n0, rfl⟩⟩)
 go_ret
 exact ⟨rfl, by repeat (with_reducible first | exact Below.refl _ _ | apply pw_below_drewN | apply below_drew1 | apply below_alloc | refine below_set ?_ (by simp))⟩
set_option maxHeartbeats 2000000 in
set_option maxRecDepth 100000 in
theorem fit_4n2 (a2 a4 a5 a6 a7 a8 : Int) (w : World) (hz : ¬ a4 = 0) : Calls Try.prog 85 #[.agg #[.int .i64 4, .int .i64 0, .int .i64 a2, .int .i64 0, .int .i64 a4, .int .i64 a5, .int .i64 a6, .int .i64 a7, .int .i64 a8]] w (Fits false w) := by
 have kz : (a4 == 0) = false := by simpa using hz
 clear hz
 go_enter Try.func85, Try.ntmps85
 go_wp2_with (go_at_call 79; refine (in6_calls _ _ _ _ (by assumption) _).mono ?_; rintro e w' ⟨rfl, ⟨n0, rfl⟩⟩)
 go_ret
 exact ⟨rfl, by repeat (with_reducible first | exact Below.refl _ _ | apply pw_below_drewN | apply below_drew1 | apply below_alloc | refine below_set ?_ (by simp))⟩
set_option maxHeartbeats 2000000 in
set_option maxRecDepth 100000 in
theorem fit_4n3 (a2 a5 a6 a7 a8 : Int) (w : World) (hz : ¬ a5 = 0) : Calls Try.prog 85 #[.agg #[.int .i64 4, .int .i64 0, .int .i64 a2, .int .i64 0, .int .i64 0, .int .i64 a5, .int .i64 a6, .int .i64 a7, .int .i64 a8]] w (Fits false w) := by
 have kz : (a5 == 0) = false := by simpa using hz
 clear hz
 go_enter Try.func85, Try.ntmps85
 go_wp2_with (go_at_call 79; refine (in6_calls _ _ _ _ (by assumption) _).mono ?_; rintro e w' ⟨rfl, ⟨n0, rfl⟩⟩)
 go_ret
 exact ⟨rfl, by repeat (with_reducible first | exact Below.refl _ _ | apply pw_below_drewN | apply below_drew1 | apply below_alloc | refine below_set ?_ (by simp))⟩
set_option maxHeartbeats 2000000 in
set_option maxRecDepth 100000 in
theorem fit_4n4 (a2 a6 a7 a8 : Int) (w : World) (hz : ¬ a6 = 0) : Calls Try.prog 85 #[.agg #[.int .i64 4, .int .i64 0, .int .i64 a2, .int .i64 0, .int .i64 0, .int .i64 0, .int .i64 a6, .int .i64 a7, .int .i64 a8]] w (Fits false w) := by
 have kz : (a6 == 0) = false := by simpa using hz
 clear hz
 go_enter Try.func85, Try.ntmps85
 go_wp2_with (go_at_call 79; refine (in6_calls _ _ _ _ (by assumption) _).mono ?_; rintro e w' ⟨rfl, ⟨n0, rfl⟩⟩)
 go_ret
 exact ⟨rfl, by repeat (with_reducible first | exact Below.refl _ _ | apply pw_below_drewN | apply below_drew1 | apply below_alloc | refine below_set ?_ (by simp))⟩
set_option maxHeartbeats 2000000 in
set_option maxRecDepth 100000 in
theorem fit_4n5 (a2 a7 a8 : Int) (w : World) (hz : ¬ a7 = 0) : Calls Try.prog 85 #[.agg #[.int .i64 4, .int .i64 0, .int .i64 a2, .int .i64 0, .int .i64 0, .int .i64 0, .int .i64 0, .int .i64 a7, .int .i64 a8]] w (Fits false w) := by
 have kz : (a7 == 0) = false := by simpa using hz
 clear hz
 go_enter Try.func85, Try.ntmps85
 go_wp2_with (go_at_call 79; refine (in6_calls _ _ _ _ (by assumption) _).mono ?_; rintro e w' ⟨rfl, ⟨n0, rfl⟩⟩)
 go_ret
 exact ⟨rfl, by repeat (with_reducible first | exact Below.refl _ _ | apply pw_below_drewN | apply below_drew1 | apply below_alloc | refine below_set ?_ (by simp))⟩
set_option maxHeartbeats 2000000 in
set_option maxRecDepth 100000 in
theorem fit_4n6 (a2 a8 : Int) (w : World) (hz : ¬ a8 = 0) : Calls Try.prog 85 #[.agg #[.int .i64 4, .int .i64 0, .int .i64 a2, .int .i64 0, .int .i64 0, .int .i64 0, .int .i64 0, .int .i64 0, .int .i64 a8]] w (Fits false w) := by
 have kz : (a8 == 0) = false := by simpa using hz
 clear hz
 go_enter Try.func85, Try.ntmps85
 go_wp2_with (go_at_call 79; refine (in6_calls _ _ _ _ (by assumption) _).mono ?_; rintro e w' ⟨rfl, ⟨n0, rfl⟩⟩)
 go_ret
 exact ⟨rfl, by repeat (with_reducible first | exact Below.refl _ _ | apply pw_below_drewN | apply below_drew1 | apply below_alloc | refine below_set ?_ (by simp))⟩
set_option maxHeartbeats 1000000 in
set_option maxRecDepth 100000 in
theorem fit_y (a0 : Int) (a1 a2 a3 a4 a5 a6 a7 a8 : Int) (w : World) (h4 : ¬ a0 = 4) (h : ¬ (1900 ≤ a6 ∧ a6 ≤ 2199 ∧ a6 ≤ a7 ∧ a7 ≤ 2199 ∧ 0 ≤ a8 ∧ a8 ≤ 2)) :
  Calls Try.prog 85 #[.agg #[.int .i64 a0, .int .i64 a1, .int .i64 a2, .int .i64 a3, .int .i64 a4, .int .i64 a5, .int .i64 a6, .int .i64 a7, .int .i64 a8]] w (Fits false w) := by
 have g4 : (a0 == 4) = false := by simpa using h4
 by_cases h6 : 1900 ≤ a6 ∧ a6 ≤ 2199
 ·
  have g6 := decide_eq_true h6
  by_cases h7 : a6 ≤ a7 ∧ a7 ≤ 2199
  ·
   have g7 := decide_eq_true h7
   have g8 : decide (0 ≤ a8 ∧ a8 ≤ 2) = false := decide_eq_false (by omega)
   clear h6 h7 h h4
   go_enter Try.func85, Try.ntmps85
   go_wp2_with (go_at_call 79; refine (in6_calls _ _ _ _ (by assumption) _).mono ?_; rintro e w' ⟨rfl, ⟨n0, rfl⟩⟩)
   go_ret
   exact ⟨rfl, by repeat (with_reducible first | exact Below.refl _ _ | apply pw_below_drewN | apply below_drew1 | apply below_alloc | refine below_set ?_ (by simp))⟩
  ·
   have g7 := decide_eq_false h7;clear h6 h7 h h4
   go_enter Try.func85, Try.ntmps85
   go_wp2_with (go_at_call 79; refine (in6_calls _ _ _ _ (by assumption) _).mono ?_; rintro e w' ⟨rfl, ⟨n0, rfl⟩⟩)
   go_ret
   exact ⟨rfl, by repeat (with_reducible first | exact Below.refl _ _ | apply pw_below_drewN | apply below_drew1 | apply below_alloc | refine below_set ?_ (by simp))⟩
 ·
  have g6 := decide_eq_false h6;clear h6 h h4
  go_enter Try.func85, Try.ntmps85
  go_wp2_with (go_at_call 79; refine (in6_calls _ _ _ _ (by assumption) _).mono ?_; rintro e w' ⟨rfl, ⟨n0, rfl⟩⟩)
  go_ret
  exact ⟨rfl, by repeat (with_reducible first | exact Below.refl _ _ | apply pw_below_drewN | apply below_drew1 | apply below_alloc | refine below_set ?_ (by simp))⟩
set_option maxHeartbeats 1000000 in
set_option maxRecDepth 100000 in
theorem fit_0 (a0 : Int) (a1 a2 a3 a4 a5 a6 a7 a8 : Int) (w : World) (g6 : decide (1900 ≤ a6 ∧ a6 ≤ 2199) = true) (g7 : decide (a6 ≤ a7 ∧ a7 ≤ 2199) = true) (g8 : decide (0 ≤ a8 ∧ a8 ≤ 2) = true) (h1 : ¬ a0 = 1) (h2 : ¬ a0 = 2) (h3 : ¬ a0 = 3) (h4 : ¬ a0 = 4) :
  Calls Try.prog 85 #[.agg #[.int .i64 a0, .int .i64 a1, .int .i64 a2, .int .i64 a3, .int .i64 a4, .int .i64 a5, .int .i64 a6, .int .i64 a7, .int .i64 a8]] w (Fits false w) := by
 have k1 : (a0 == 1) = false := by simpa using h1
 have k2 : (a0 == 2) = false := by simpa using h2
 have k3 : (a0 == 3) = false := by simpa using h3
 have k4 : (a0 == 4) = false := by simpa using h4
 clear h1 h2 h3 h4
 go_enter Try.func85, Try.ntmps85
 go_wp2_with (go_at_call 79; refine (in6_calls _ _ _ _ (by assumption) _).mono ?_; rintro e w' ⟨rfl, ⟨n0, rfl⟩⟩)
 go_ret
 exact ⟨rfl, by repeat (with_reducible first | exact Below.refl _ _ | apply pw_below_drewN | apply below_drew1 | apply below_alloc | refine below_set ?_ (by simp))⟩
set_option maxHeartbeats 2000000 in
set_option maxRecDepth 100000 in
theorem fit_2n0 (a1 a2 a3 a4 a5 a6 a7 a8 : Int) (w : World) (g6 : decide (1900 ≤ a6 ∧ a6 ≤ 2199) = true) (g7 : decide (a6 ≤ a7 ∧ a7 ≤ 2199) = true) (g8 : decide (0 ≤ a8 ∧ a8 ≤ 2) = true) (hz : ¬ a2 = 0) : Calls Try.prog 85 #[.agg #[.int .i64 2, .int .i64 a1, .int .i64 a2, .int .i64 a3, .int .i64 a4, .int .i64 a5, .int .i64 a6, .int .i64 a7, .int .i64 a8]] w (Fits false w) := by
 have kz : (a2 == 0) = false := by simpa using hz
 clear hz
 go_enter Try.func85, Try.ntmps85
 go_wp2_with (go_at_call 79; refine (in6_calls _ _ _ _ (by assumption) _).mono ?_; rintro e w' ⟨rfl, ⟨n0, rfl⟩⟩)
 go_ret
 exact ⟨rfl, by repeat (with_reducible first | exact Below.refl _ _ | apply pw_below_drewN | apply below_drew1 | apply below_alloc | refine below_set ?_ (by simp))⟩
set_option maxHeartbeats 2000000 in
set_option maxRecDepth 100000 in
theorem fit_2n1 (a1 a3 a4 a5 a6 a7 a8 : Int) (w : World) (g6 : decide (1900 ≤ a6 ∧ a6 ≤ 2199) = true) (g7 : decide (a6 ≤ a7 ∧ a7 ≤ 2199) = true) (g8 : decide (0 ≤ a8 ∧ a8 ≤ 2) = true) (hz : ¬ a5 = 0) : Calls Try.prog 85 #[.agg #[.int .i64 2, .int .i64 a1, .int .i64 0, .int .i64 a3, .int .i64 a4, .int .i64 a5, .int .i64 a6, .int .i64 a7, .int .i64 a8]] w (Fits false w) := by
 have kz : (a5 == 0) = false := by simpa using hz
 clear hz
 go_enter Try.func85, Try.ntmps85
 go_wp2_with (go_at_call 79; refine (in6_calls _ _ _ _ (by assumption) _).mono ?_; rintro e w' ⟨rfl, ⟨n0, rfl⟩⟩)
 go_ret
 exact ⟨rfl, by repeat (with_reducible first | exact Below.refl _ _ | apply pw_below_drewN | apply below_drew1 | apply below_alloc | refine below_set ?_ (by simp))⟩
set_option maxHeartbeats 2000000 in
set_option maxRecDepth 100000 in
theorem fit_2c0 (a1 a3 a4 a6 a7 a8 : Int) (w : World) (g6 : decide (1900 ≤ a6 ∧ a6 ≤ 2199) = true) (g7 : decide (a6 ≤ a7 ∧ a7 ≤ 2199) = true) (g8 : decide (0 ≤ a8 ∧ a8 ≤ 2) = true)  (c0 : decide (1 ≤ a1 ∧ a1 ≤ 12) = false) : Calls Try.prog 85 #[.agg #[.int .i64 2, .int .i64 a1, .int .i64 0, .int .i64 a3, .int .i64 a4, .int .i64 0, .int .i64 a6, .int .i64 a7, .int .i64 a8]] w (Fits false w) := by
 go_enter Try.func85, Try.ntmps85
 go_wp2_with (go_at_call 79; refine (in6_calls _ _ _ _ (by assumption) _).mono ?_; rintro e w' ⟨rfl, ⟨n0, rfl⟩⟩)
 go_ret
 exact ⟨rfl, by repeat (with_reducible first | exact Below.refl _ _ | apply pw_below_drewN | apply below_drew1 | apply below_alloc | refine below_set ?_ (by simp))⟩
set_option maxHeartbeats 2000000 in
set_option maxRecDepth 100000 in
theorem fit_2c1 (a1 a3 a4 a6 a7 a8 : Int) (w : World) (g6 : decide (1900 ≤ a6 ∧ a6 ≤ 2199) = true) (g7 : decide (a6 ≤ a7 ∧ a7 ≤ 2199) = true) (g8 : decide (0 ≤ a8 ∧ a8 ≤ 2) = true) (c0 : decide (1 ≤ a1 ∧ a1 ≤ 12) = true) (c1 : decide (0 ≤ a4 ∧ a4 ≤ 6) = false) : Calls Try.prog 85 #[.agg #[.int .i64 2, .int .i64 a1, .int .i64 0, .int .i64 a3, .int .i64 a4, .int .i64 0, .int .i64 a6, .int .i64 a7, .int .i64 a8]] w (Fits false w) := by
 go_enter Try.func85, Try.ntmps85
 go_wp2_with (go_at_call 79; refine (in6_calls _ _ _ _ (by assumption) _).mono ?_; rintro e w' ⟨rfl, ⟨n0, rfl⟩⟩)
 go_ret
 exact ⟨rfl, by repeat (with_reducible first | exact Below.refl _ _ | apply pw_below_drewN | apply below_drew1 | apply below_alloc | refine below_set ?_ (by simp))⟩
set_option maxHeartbeats 2000000 in
set_option maxRecDepth 100000 in
theorem fit_2c2 (a1 a3 a4 a6 a7 a8 : Int) (w : World) (g6 : decide (1900 ≤ a6 ∧ a6 ≤ 2199) = true) (g7 : decide (a6 ≤ a7 ∧ a7 ≤ 2199) = true) (g8 : decide (0 ≤ a8 ∧ a8 ≤ 2) = true) (c0 : decide (1 ≤ a1 ∧ a1 ≤ 12) = true) (c1 : decide (0 ≤ a4 ∧ a4 ≤ 6) = true) (c2 : decide (1 ≤ a3 ∧ a3 ≤ 5) = false) : Calls Try.prog 85 #[.agg #[.int .i64 2, .int .i64 a1, .int .i64 0, .int .i64 a3, .int .i64 a4, .int .i64 0, .int .i64 a6, .int .i64 a7, .int .i64 a8]] w (Fits false w) := by
 go_enter Try.func85, Try.ntmps85
 go_wp2_with (go_at_call 79; refine (in6_calls _ _ _ _ (by assumption) _).mono ?_; rintro e w' ⟨rfl, ⟨n0, rfl⟩⟩)
 go_ret
 exact ⟨rfl, by repeat (with_reducible first | exact Below.refl _ _ | apply pw_below_drewN | apply below_drew1 | apply below_alloc | refine below_set ?_ (by simp))⟩
set_option maxHeartbeats 2000000 in
set_option maxRecDepth 100000 in
theorem fit_2c3 (a1 a3 a4 a6 a7 a8 : Int) (w : World) (g6 : decide (1900 ≤ a6 ∧ a6 ≤ 2199) = true) (g7 : decide (a6 ≤ a7 ∧ a7 ≤ 2199) = true) (g8 : decide (0 ≤ a8 ∧ a8 ≤ 2) = true) (c0 : decide (1 ≤ a1 ∧ a1 ≤ 12) = true) (c1 : decide (0 ≤ a4 ∧ a4 ≤ 6) = true) (c2 : decide (1 ≤ a3 ∧ a3 ≤ 5) = true) : Calls Try.prog 85 #[.agg #[.int .i64 2, .int .i64 a1, .int .i64 0, .int .i64 a3, .int .i64 a4, .int .i64 0, .int .i64 a6, .int .i64 a7, .int .i64 a8]] w (Fits true w) := by
 go_enter Try.func85, Try.ntmps85
 go_wp2_with (go_at_call 79; refine (in6_calls _ _ _ _ (by assumption) _).mono ?_; rintro e w' ⟨rfl, ⟨n0, rfl⟩⟩)
 go_ret
 exact ⟨rfl, by repeat (with_reducible first | exact Below.refl _ _ | apply pw_below_drewN | apply below_drew1 | apply below_alloc | refine below_set ?_ (by simp))⟩
set_option maxHeartbeats 2000000 in
set_option maxRecDepth 100000 in
theorem fit_3n0 (a1 a2 a3 a4 a5 a6 a7 a8 : Int) (w : World) (g6 : decide (1900 ≤ a6 ∧ a6 ≤ 2199) = true) (g7 : decide (a6 ≤ a7 ∧ a7 ≤ 2199) = true) (g8 : decide (0 ≤ a8 ∧ a8 ≤ 2) = true) (hz : ¬ a1 = 0) : Calls Try.prog 85 #[.agg #[.int .i64 3, .int .i64 a1, .int .i64 a2, .int .i64 a3, .int .i64 a4, .int .i64 a5, .int .i64 a6, .int .i64 a7, .int .i64 a8]] w (Fits false w) := by
 have kz : (a1 == 0) = false := by simpa using hz
 clear hz
 go_enter Try.func85, Try.ntmps85
 go_wp2_with (go_at_call 79; refine (in6_calls _ _ _ _ (by assumption) _).mono ?_; rintro e w' ⟨rfl, ⟨n0, rfl⟩⟩)
 go_ret
 exact ⟨rfl, by repeat (with_reducible first | exact Below.refl _ _ | apply pw_below_drewN | apply below_drew1 | apply below_alloc | refine below_set ?_ (by simp))⟩
set_option maxHeartbeats 2000000 in
set_option maxRecDepth 100000 in
theorem fit_3n1 (a2 a3 a4 a5 a6 a7 a8 : Int) (w : World) (g6 : decide (1900 ≤ a6 ∧ a6 ≤ 2199) = true) (g7 : decide (a6 ≤ a7 ∧ a7 ≤ 2199) = true) (g8 : decide (0 ≤ a8 ∧ a8 ≤ 2) = true) (hz : ¬ a2 = 0) : Calls Try.prog 85 #[.agg #[.int .i64 3, .int .i64 0, .int .i64 a2, .int .i64 a3, .int .i64 a4, .int .i64 a5, .int .i64 a6, .int .i64 a7, .int .i64 a8]] w (Fits false w) := by
 have kz : (a2 == 0) = false := by simpa using hz
 clear hz
 go_enter Try.func85, Try.ntmps85
 go_wp2_with (go_at_call 79; refine (in6_calls _ _ _ _ (by assumption) _).mono ?_; rintro e w' ⟨rfl, ⟨n0, rfl⟩⟩)
 go_ret
 exact ⟨rfl, by repeat (with_reducible first | exact Below.refl _ _ | apply pw_below_drewN | apply below_drew1 | apply below_alloc | refine below_set ?_ (by simp))⟩
set_option maxHeartbeats 2000000 in
set_option maxRecDepth 100000 in
theorem fit_3n2 (a3 a4 a5 a6 a7 a8 : Int) (w : World) (g6 : decide (1900 ≤ a6 ∧ a6 ≤ 2199) = true) (g7 : decide (a6 ≤ a7 ∧ a7 ≤ 2199) = true) (g8 : decide (0 ≤ a8 ∧ a8 ≤ 2) = true) (hz : ¬ a3 = 0) : Calls Try.prog 85 #[.agg #[.int .i64 3, .int .i64 0, .int .i64 0, .int .i64 a3, .int .i64 a4, .int .i64 a5, .int .i64 a6, .int .i64 a7, .int .i64 a8]] w (Fits false w) := by
 have kz : (a3 == 0) = false := by simpa using hz
 clear hz
 go_enter Try.func85, Try.ntmps85
 go_wp2_with (go_at_call 79; refine (in6_calls _ _ _ _ (by assumption) _).mono ?_; rintro e w' ⟨rfl, ⟨n0, rfl⟩⟩)
 go_ret
 exact ⟨rfl, by repeat (with_reducible first | exact Below.refl _ _ | apply pw_below_drewN | apply below_drew1 | apply below_alloc | refine below_set ?_ (by simp))⟩
set_option maxHeartbeats 2000000 in
set_option maxRecDepth 100000 in
theorem fit_3n3 (a4 a5 a6 a7 a8 : Int) (w : World) (g6 : decide (1900 ≤ a6 ∧ a6 ≤ 2199) = true) (g7 : decide (a6 ≤ a7 ∧ a7 ≤ 2199) = true) (g8 : decide (0 ≤ a8 ∧ a8 ≤ 2) = true) (hz : ¬ a4 = 0) : Calls Try.prog 85 #[.agg #[.int .i64 3, .int .i64 0, .int .i64 0, .int .i64 0, .int .i64 a4, .int .i64 a5, .int .i64 a6, .int .i64 a7, .int .i64 a8]] w (Fits false w) := by
 have kz : (a4 == 0) = false := by simpa using hz
 clear hz
 go_enter Try.func85, Try.ntmps85
 go_wp2_with (go_at_call 79; refine (in6_calls _ _ _ _ (by assumption) _).mono ?_; rintro e w' ⟨rfl, ⟨n0, rfl⟩⟩)
 go_ret
 exact ⟨rfl, by repeat (with_reducible first | exact Below.refl _ _ | apply pw_below_drewN | apply below_drew1 | apply below_alloc | refine below_set ?_ (by simp))⟩
set_option maxHeartbeats 2000000 in
set_option maxRecDepth 100000 in
theorem fit_3c0 (a5 a6 a7 a8 : Int) (w : World) (g6 : decide (1900 ≤ a6 ∧ a6 ≤ 2199) = true) (g7 : decide (a6 ≤ a7 ∧ a7 ≤ 2199) = true) (g8 : decide (0 ≤ a8 ∧ a8 ≤ 2) = true)  (c0 : decide (-100 ≤ a5 ∧ a5 ≤ 100) = false) : Calls Try.prog 85 #[.agg #[.int .i64 3, .int .i64 0, .int .i64 0, .int .i64 0, .int .i64 0, .int .i64 a5, .int .i64 a6, .int .i64 a7, .int .i64 a8]] w (Fits false w) := by
 go_enter Try.func85, Try.ntmps85
 go_wp2_with (go_at_call 79; refine (in6_calls _ _ _ _ (by assumption) _).mono ?_; rintro e w' ⟨rfl, ⟨n0, rfl⟩⟩)
 go_ret
 exact ⟨rfl, by repeat (with_reducible first | exact Below.refl _ _ | apply pw_below_drewN | apply below_drew1 | apply below_alloc | refine below_set ?_ (by simp))⟩
set_option maxHeartbeats 2000000 in
set_option maxRecDepth 100000 in
theorem fit_3c1 (a5 a6 a7 a8 : Int) (w : World) (g6 : decide (1900 ≤ a6 ∧ a6 ≤ 2199) = true) (g7 : decide (a6 ≤ a7 ∧ a7 ≤ 2199) = true) (g8 : decide (0 ≤ a8 ∧ a8 ≤ 2) = true) (c0 : decide (-100 ≤ a5 ∧ a5 ≤ 100) = true) : Calls Try.prog 85 #[.agg #[.int .i64 3, .int .i64 0, .int .i64 0, .int .i64 0, .int .i64 0, .int .i64 a5, .int .i64 a6, .int .i64 a7, .int .i64 a8]] w (Fits true w) := by
 go_enter Try.func85, Try.ntmps85
 go_wp2_with (go_at_call 79; refine (in6_calls _ _ _ _ (by assumption) _).mono ?_; rintro e w' ⟨rfl, ⟨n0, rfl⟩⟩)
 go_ret
 exact ⟨rfl, by repeat (with_reducible first | exact Below.refl _ _ | apply pw_below_drewN | apply below_drew1 | apply below_alloc | refine below_set ?_ (by simp))⟩
set_option maxHeartbeats 2000000 in
set_option maxRecDepth 100000 in
theorem fit_1n0 (a1 a2 a3 a4 a5 a6 a7 a8 : Int) (w : World) (g6 : decide (1900 ≤ a6 ∧ a6 ≤ 2199) = true) (g7 : decide (a6 ≤ a7 ∧ a7 ≤ 2199) = true) (g8 : decide (0 ≤ a8 ∧ a8 ≤ 2) = true) (hz : ¬ a3 = 0) : Calls Try.prog 85 #[.agg #[.int .i64 1, .int .i64 a1, .int .i64 a2, .int .i64 a3, .int .i64 a4, .int .i64 a5, .int .i64 a6, .int .i64 a7, .int .i64 a8]] w (Fits false w) := by
 have kz : (a3 == 0) = false := by simpa using hz
 clear hz
 go_enter Try.func85, Try.ntmps85
 go_wp2_with (go_at_call 79; refine (in6_calls _ _ _ _ (by assumption) _).mono ?_; rintro e w' ⟨rfl, ⟨n0, rfl⟩⟩)
 go_quiet ((go_at_call 79; exact Calls.quiet_of ((in6_calls _ _ _ _ (by assumption) _).mono fun _ _ h => ⟨h.1, h.2.out⟩)))
 go_wp2_with fail
 go_ret
 exact ⟨rfl, by repeat (with_reducible first | exact Below.refl _ _ | apply pw_below_drewN | apply below_drew1 | apply below_alloc | refine below_set ?_ (by simp))⟩
set_option maxHeartbeats 2000000 in
set_option maxRecDepth 100000 in
theorem fit_1n1 (a1 a2 a4 a5 a6 a7 a8 : Int) (w : World) (g6 : decide (1900 ≤ a6 ∧ a6 ≤ 2199) = true) (g7 : decide (a6 ≤ a7 ∧ a7 ≤ 2199) = true) (g8 : decide (0 ≤ a8 ∧ a8 ≤ 2) = true) (hz : ¬ a4 = 0) : Calls Try.prog 85 #[.agg #[.int .i64 1, .int .i64 a1, .int .i64 a2, .int .i64 0, .int .i64 a4, .int .i64 a5, .int .i64 a6, .int .i64 a7, .int .i64 a8]] w (Fits false w) := by
 have kz : (a4 == 0) = false := by simpa using hz
 clear hz
 go_enter Try.func85, Try.ntmps85
 go_wp2_with (go_at_call 79; refine (in6_calls _ _ _ _ (by assumption) _).mono ?_; rintro e w' ⟨rfl, ⟨n0, rfl⟩⟩)
 go_quiet ((go_at_call 79; exact Calls.quiet_of ((in6_calls _ _ _ _ (by assumption) _).mono fun _ _ h => ⟨h.1, h.2.out⟩)))
 go_wp2_with fail
 go_ret
 exact ⟨rfl, by repeat (with_reducible first | exact Below.refl _ _ | apply pw_below_drewN | apply below_drew1 | apply below_alloc | refine below_set ?_ (by simp))⟩
set_option maxHeartbeats 2000000 in
set_option maxRecDepth 100000 in
theorem fit_1n2 (a1 a2 a5 a6 a7 a8 : Int) (w : World) (g6 : decide (1900 ≤ a6 ∧ a6 ≤ 2199) = true) (g7 : decide (a6 ≤ a7 ∧ a7 ≤ 2199) = true) (g8 : decide (0 ≤ a8 ∧ a8 ≤ 2) = true) (hz : ¬ a5 = 0) : Calls Try.prog 85 #[.agg #[.int .i64 1, .int .i64 a1, .int .i64 a2, .int .i64 0, .int .i64 0, .int .i64 a5, .int .i64 a6, .int .i64 a7, .int .i64 a8]] w (Fits false w) := by
 have kz : (a5 == 0) = false := by simpa using hz
 clear hz
 go_enter Try.func85, Try.ntmps85
 go_wp2_with (go_at_call 79; refine (in6_calls _ _ _ _ (by assumption) _).mono ?_; rintro e w' ⟨rfl, ⟨n0, rfl⟩⟩)
 go_quiet ((go_at_call 79; exact Calls.quiet_of ((in6_calls _ _ _ _ (by assumption) _).mono fun _ _ h => ⟨h.1, h.2.out⟩)))
 go_wp2_with fail
 go_ret
 exact ⟨rfl, by repeat (with_reducible first | exact Below.refl _ _ | apply pw_below_drewN | apply below_drew1 | apply below_alloc | refine below_set ?_ (by simp))⟩
set_option maxHeartbeats 2000000 in
set_option maxRecDepth 100000 in
theorem fit_1c0 (a1 a2 a6 a7 a8 : Int) (w : World) (g6 : decide (1900 ≤ a6 ∧ a6 ≤ 2199) = true) (g7 : decide (a6 ≤ a7 ∧ a7 ≤ 2199) = true) (g8 : decide (0 ≤ a8 ∧ a8 ≤ 2) = true) (c0 : decide (1 ≤ a1 ∧ a1 ≤ 12) = false) : Calls Try.prog 85 #[.agg #[.int .i64 1, .int .i64 a1, .int .i64 a2, .int .i64 0, .int .i64 0, .int .i64 0, .int .i64 a6, .int .i64 a7, .int .i64 a8]] w (Fits false w) := by
 go_enter Try.func85, Try.ntmps85
 go_wp2_with (go_at_call 79; refine (in6_calls _ _ _ _ (by assumption) _).mono ?_; rintro e w' ⟨rfl, ⟨n0, rfl⟩⟩)
 go_quiet ((go_at_call 79; exact Calls.quiet_of ((in6_calls _ _ _ _ (by assumption) _).mono fun _ _ h => ⟨h.1, h.2.out⟩)))
 go_wp2_with fail
 go_ret
 exact ⟨rfl, by repeat (with_reducible first | exact Below.refl _ _ | apply pw_below_drewN | apply below_drew1 | apply below_alloc | refine below_set ?_ (by simp))⟩
set_option maxHeartbeats 2000000 in
set_option maxRecDepth 100000 in
theorem fit_1m1 (a2 a6 a7 a8 : Int) (w : World) (g6 : decide (1900 ≤ a6 ∧ a6 ≤ 2199) = true) (g7 : decide (a6 ≤ a7 ∧ a7 ≤ 2199) = true) (g8 : decide (0 ≤ a8 ∧ a8 ≤ 2) = true) (b : Bool) (c1 : decide (1 ≤ a2 ∧ a2 ≤ 31) = b) : Calls Try.prog 85 #[.agg #[.int .i64 1, .int .i64 1, .int .i64 a2, .int .i64 0, .int .i64 0, .int .i64 0, .int .i64 a6, .int .i64 a7, .int .i64 a8]] w (Fits b w) := by
 have c0 : decide ((1 : Int) ≤ 1 ∧ (1 : Int) ≤ 12) = true := by decide
 go_enter Try.func85, Try.ntmps85
 go_wp2_with (go_at_call 79; refine (in6_calls _ _ _ _ (by assumption) _).mono ?_; rintro e w' ⟨rfl, ⟨n0, rfl⟩⟩)
 go_quiet ((go_at_call 79; exact Calls.quiet_of ((in6_calls _ _ _ _ (by assumption) _).mono fun _ _ h => ⟨h.1, h.2.out⟩)))
 go_wp2_with fail
 go_ret
 exact ⟨rfl, by repeat (with_reducible first | exact Below.refl _ _ | apply pw_below_drewN | apply below_drew1 | apply below_alloc | refine below_set ?_ (by simp))⟩
set_option maxHeartbeats 2000000 in
set_option maxRecDepth 100000 in
theorem fit_1m2 (a2 a6 a7 a8 : Int) (w : World) (g6 : decide (1900 ≤ a6 ∧ a6 ≤ 2199) = true) (g7 : decide (a6 ≤ a7 ∧ a7 ≤ 2199) = true) (g8 : decide (0 ≤ a8 ∧ a8 ≤ 2) = true) (b : Bool) (c1 : decide (1 ≤ a2 ∧ a2 ≤ 29) = b) : Calls Try.prog 85 #[.agg #[.int .i64 1, .int .i64 2, .int .i64 a2, .int .i64 0, .int .i64 0, .int .i64 0, .int .i64 a6, .int .i64 a7, .int .i64 a8]] w (Fits b w) := by
 have c0 : decide ((1 : Int) ≤ 2 ∧ (2 : Int) ≤ 12) = true := by decide
 go_enter Try.func85, Try.ntmps85
 go_wp2_with (go_at_call 79; refine (in6_calls _ _ _ _ (by assumption) _).mono ?_; rintro e w' ⟨rfl, ⟨n0, rfl⟩⟩)
 go_quiet ((go_at_call 79; exact Calls.quiet_of ((in6_calls _ _ _ _ (by assumption) _).mono fun _ _ h => ⟨h.1, h.2.out⟩)))
 go_wp2_with fail
 go_ret
 exact ⟨rfl, by repeat (with_reducible first | exact Below.refl _ _ | apply pw_below_drewN | apply below_drew1 | apply below_alloc | refine below_set ?_ (by simp))⟩
set_option maxHeartbeats 2000000 in
set_option maxRecDepth 100000 in
theorem fit_1m3 (a2 a6 a7 a8 : Int) (w : World) (g6 : decide (1900 ≤ a6 ∧ a6 ≤ 2199) = true) (g7 : decide (a6 ≤ a7 ∧ a7 ≤ 2199) = true) (g8 : decide (0 ≤ a8 ∧ a8 ≤ 2) = true) (b : Bool) (c1 : decide (1 ≤ a2 ∧ a2 ≤ 31) = b) : Calls Try.prog 85 #[.agg #[.int .i64 1, .int .i64 3, .int .i64 a2, .int .i64 0, .int .i64 0, .int .i64 0, .int .i64 a6, .int .i64 a7, .int .i64 a8]] w (Fits b w) := by
 have c0 : decide ((1 : Int) ≤ 3 ∧ (3 : Int) ≤ 12) = true := by decide
 go_enter Try.func85, Try.ntmps85
 go_wp2_with (go_at_call 79; refine (in6_calls _ _ _ _ (by assumption) _).mono ?_; rintro e w' ⟨rfl, ⟨n0, rfl⟩⟩)
 go_quiet ((go_at_call 79; exact Calls.quiet_of ((in6_calls _ _ _ _ (by assumption) _).mono fun _ _ h => ⟨h.1, h.2.out⟩)))
 go_wp2_with fail
 go_ret
 exact ⟨rfl, by repeat (with_reducible first | exact Below.refl _ _ | apply pw_below_drewN | apply below_drew1 | apply below_alloc | refine below_set ?_ (by simp))⟩
set_option maxHeartbeats 2000000 in
set_option maxRecDepth 100000 in
theorem fit_1m4 (a2 a6 a7 a8 : Int) (w : World) (g6 : decide (1900 ≤ a6 ∧ a6 ≤ 2199) = true) (g7 : decide (a6 ≤ a7 ∧ a7 ≤ 2199) = true) (g8 : decide (0 ≤ a8 ∧ a8 ≤ 2) = true) (b : Bool) (c1 : decide (1 ≤ a2 ∧ a2 ≤ 30) = b) : Calls Try.prog 85 #[.agg #[.int .i64 1, .int .i64 4, .int .i64 a2, .int .i64 0, .int .i64 0, .int .i64 0, .int .i64 a6, .int .i64 a7, .int .i64 a8]] w (Fits b w) := by
 have c0 : decide ((1 : Int) ≤ 4 ∧ (4 : Int) ≤ 12) = true := by decide
 go_enter Try.func85, Try.ntmps85
 go_wp2_with (go_at_call 79; refine (in6_calls _ _ _ _ (by assumption) _).mono ?_; rintro e w' ⟨rfl, ⟨n0, rfl⟩⟩)
 go_quiet ((go_at_call 79; exact Calls.quiet_of ((in6_calls _ _ _ _ (by assumption) _).mono fun _ _ h => ⟨h.1, h.2.out⟩)))
 go_wp2_with fail
 go_ret
 exact ⟨rfl, by repeat (with_reducible first | exact Below.refl _ _ | apply pw_below_drewN | apply below_drew1 | apply below_alloc | refine below_set ?_ (by simp))⟩
set_option maxHeartbeats 2000000 in
set_option maxRecDepth 100000 in
theorem fit_1m5 (a2 a6 a7 a8 : Int) (w : World) (g6 : decide (1900 ≤ a6 ∧ a6 ≤ 2199) = true) (g7 : decide (a6 ≤ a7 ∧ a7 ≤ 2199) = true) (g8 : decide (0 ≤ a8 ∧ a8 ≤ 2) = true) (b : Bool) (c1 : decide (1 ≤ a2 ∧ a2 ≤ 31) = b) : Calls Try.prog 85 #[.agg #[.int .i64 1, .int .i64 5, .int .i64 a2, .int .i64 0, .int .i64 0, .int .i64 0, .int .i64 a6, .int .i64 a7, .int .i64 a8]] w (Fits b w) := by
 have c0 : decide ((1 : Int) ≤ 5 ∧ (5 : Int) ≤ 12) = true := by decide
 go_enter Try.func85, Try.ntmps85
 go_wp2_with (go_at_call 79; refine (in6_calls _ _ _ _ (by assumption) _).mono ?_; rintro e w' ⟨rfl, ⟨n0, rfl⟩⟩)
 go_quiet ((go_at_call 79; exact Calls.quiet_of ((in6_calls _ _ _ _ (by assumption) _).mono fun _ _ h => ⟨h.1, h.2.out⟩)))
 go_wp2_with fail
 go_ret
 exact ⟨rfl, by repeat (with_reducible first | exact Below.refl _ _ | apply pw_below_drewN | apply below_drew1 | apply below_alloc | refine below_set ?_ (by simp))⟩
set_option maxHeartbeats 2000000 in
set_option maxRecDepth 100000 in
theorem fit_1m6 (a2 a6 a7 a8 : Int) (w : World) (g6 : decide (1900 ≤ a6 ∧ a6 ≤ 2199) = true) (g7 : decide (a6 ≤ a7 ∧ a7 ≤ 2199) = true) (g8 : decide (0 ≤ a8 ∧ a8 ≤ 2) = true) (b : Bool) (c1 : decide (1 ≤ a2 ∧ a2 ≤ 30) = b) : Calls Try.prog 85 #[.agg #[.int .i64 1, .int .i64 6, .int .i64 a2, .int .i64 0, .int .i64 0, .int .i64 0, .int .i64 a6, .int .i64 a7, .int .i64 a8]] w (Fits b w) := by
 have c0 : decide ((1 : Int) ≤ 6 ∧ (6 : Int) ≤ 12) = true := by decide
 go_enter Try.func85, Try.ntmps85
 go_wp2_with (go_at_call 79; refine (in6_calls _ _ _ _ (by assumption) _).mono ?_; rintro e w' ⟨rfl, ⟨n0, rfl⟩⟩)
 go_quiet ((go_at_call 79; exact Calls.quiet_of ((in6_calls _ _ _ _ (by assumption) _).mono fun _ _ h => ⟨h.1, h.2.out⟩)))
 go_wp2_with fail
 go_ret
 exact ⟨rfl, by repeat (with_reducible first | exact Below.refl _ _ | apply pw_below_drewN | apply below_drew1 | apply below_alloc | refine below_set ?_ (by simp))⟩
set_option maxHeartbeats 2000000 in
set_option maxRecDepth 100000 in
theorem fit_1m7 (a2 a6 a7 a8 : Int) (w : World) (g6 : decide (1900 ≤ a6 ∧ a6 ≤ 2199) = true) (g7 : decide (a6 ≤ a7 ∧ a7 ≤ 2199) = true) (g8 : decide (0 ≤ a8 ∧ a8 ≤ 2) = true) (b : Bool) (c1 : decide (1 ≤ a2 ∧ a2 ≤ 31) = b) : Calls Try.prog 85 #[.agg #[.int .i64 1, .int .i64 7, .int .i64 a2, .int .i64 0, .int .i64 0, .int .i64 0, .int .i64 a6, .int .i64 a7, .int .i64 a8]] w (Fits b w) := by
 have c0 : decide ((1 : Int) ≤ 7 ∧ (7 : Int) ≤ 12) = true := by decide
 go_enter Try.func85, Try.ntmps85
 go_wp2_with (go_at_call 79; refine (in6_calls _ _ _ _ (by assumption) _).mono ?_; rintro e w' ⟨rfl, ⟨n0, rfl⟩⟩)
 go_quiet ((go_at_call 79; exact Calls.quiet_of ((in6_calls _ _ _ _ (by assumption) _).mono fun _ _ h => ⟨h.1, h.2.out⟩)))
 go_wp2_with fail
 go_ret
 exact ⟨rfl, by repeat (with_reducible first | exact Below.refl _ _ | apply pw_below_drewN | apply below_drew1 | apply below_alloc | refine below_set ?_ (by simp))⟩
set_option maxHeartbeats 2000000 in
set_option maxRecDepth 100000 in
theorem fit_1m8 (a2 a6 a7 a8 : Int) (w : World) (g6 : decide (1900 ≤ a6 ∧ a6 ≤ 2199) = true) (g7 : decide (a6 ≤ a7 ∧ a7 ≤ 2199) = true) (g8 : decide (0 ≤ a8 ∧ a8 ≤ 2) = true) (b : Bool) (c1 : decide (1 ≤ a2 ∧ a2 ≤ 31) = b) : Calls Try.prog 85 #[.agg #[.int .i64 1, .int .i64 8, .int .i64 a2, .int .i64 0, .int .i64 0, .int .i64 0, .int .i64 a6, .int .i64 a7, .int .i64 a8]] w (Fits b w) := by
 have c0 : decide ((1 : Int) ≤ 8 ∧ (8 : Int) ≤ 12) = true := by decide
 go_enter Try.func85, Try.ntmps85
 go_wp2_with (go_at_call 79; refine (in6_calls _ _ _ _ (by assumption) _).mono ?_; rintro e w' ⟨rfl, ⟨n0, rfl⟩⟩)
 go_quiet ((go_at_call 79; exact Calls.quiet_of ((in6_calls _ _ _ _ (by assumption) _).mono fun _ _ h => ⟨h.1, h.2.out⟩)))
 go_wp2_with fail
 go_ret
 exact ⟨rfl, by repeat (with_reducible first | exact Below.refl _ _ | apply pw_below_drewN | apply below_drew1 | apply below_alloc | refine below_set ?_ (by simp))⟩
set_option maxHeartbeats 2000000 in
set_option maxRecDepth 100000 in
theorem fit_1m9 (a2 a6 a7 a8 : Int) (w : World) (g6 : decide (1900 ≤ a6 ∧ a6 ≤ 2199) = true) (g7 : decide (a6 ≤ a7 ∧ a7 ≤ 2199) = true) (g8 : decide (0 ≤ a8 ∧ a8 ≤ 2) = true) (b : Bool) (c1 : decide (1 ≤ a2 ∧ a2 ≤ 30) = b) : Calls Try.prog 85 #[.agg #[.int .i64 1, .int .i64 9, .int .i64 a2, .int .i64 0, .int .i64 0, .int .i64 0, .int .i64 a6, .int .i64 a7, .int .i64 a8]] w (Fits b w) := by
 have c0 : decide ((1 : Int) ≤ 9 ∧ (9 : Int) ≤ 12) = true := by decide
 go_enter Try.func85, Try.ntmps85
 go_wp2_with (go_at_call 79; refine (in6_calls _ _ _ _ (by assumption) _).mono ?_; rintro e w' ⟨rfl, ⟨n0, rfl⟩⟩)
 go_quiet ((go_at_call 79; exact Calls.quiet_of ((in6_calls _ _ _ _ (by assumption) _).mono fun _ _ h => ⟨h.1, h.2.out⟩)))
 go_wp2_with fail
 go_ret
 exact ⟨rfl, by repeat (with_reducible first | exact Below.refl _ _ | apply pw_below_drewN | apply below_drew1 | apply below_alloc | refine below_set ?_ (by simp))⟩
set_option maxHeartbeats 2000000 in
set_option maxRecDepth 100000 in
theorem fit_1m10 (a2 a6 a7 a8 : Int) (w : World) (g6 : decide (1900 ≤ a6 ∧ a6 ≤ 2199) = true) (g7 : decide (a6 ≤ a7 ∧ a7 ≤ 2199) = true) (g8 : decide (0 ≤ a8 ∧ a8 ≤ 2) = true) (b : Bool) (c1 : decide (1 ≤ a2 ∧ a2 ≤ 31) = b) : Calls Try.prog 85 #[.agg #[.int .i64 1, .int .i64 10, .int .i64 a2, .int .i64 0, .int .i64 0, .int .i64 0, .int .i64 a6, .int .i64 a7, .int .i64 a8]] w (Fits b w) := by
 have c0 : decide ((1 : Int) ≤ 10 ∧ (10 : Int) ≤ 12) = true := by decide
 go_enter Try.func85, Try.ntmps85
 go_wp2_with (go_at_call 79; refine (in6_calls _ _ _ _ (by assumption) _).mono ?_; rintro e w' ⟨rfl, ⟨n0, rfl⟩⟩)
 go_quiet ((go_at_call 79; exact Calls.quiet_of ((in6_calls _ _ _ _ (by assumption) _).mono fun _ _ h => ⟨h.1, h.2.out⟩)))
 go_wp2_with fail
 go_ret
 exact ⟨rfl, by repeat (with_reducible first | exact Below.refl _ _ | apply pw_below_drewN | apply below_drew1 | apply below_alloc | refine below_set ?_ (by simp))⟩
set_option maxHeartbeats 2000000 in
set_option maxRecDepth 100000 in
theorem fit_1m11 (a2 a6 a7 a8 : Int) (w : World) (g6 : decide (1900 ≤ a6 ∧ a6 ≤ 2199) = true) (g7 : decide (a6 ≤ a7 ∧ a7 ≤ 2199) = true) (g8 : decide (0 ≤ a8 ∧ a8 ≤ 2) = true) (b : Bool) (c1 : decide (1 ≤ a2 ∧ a2 ≤ 30) = b) : Calls Try.prog 85 #[.agg #[.int .i64 1, .int .i64 11, .int .i64 a2, .int .i64 0, .int .i64 0, .int .i64 0, .int .i64 a6, .int .i64 a7, .int .i64 a8]] w (Fits b w) := by
 have c0 : decide ((1 : Int) ≤ 11 ∧ (11 : Int) ≤ 12) = true := by decide
 go_enter Try.func85, Try.ntmps85
 go_wp2_with (go_at_call 79; refine (in6_calls _ _ _ _ (by assumption) _).mono ?_; rintro e w' ⟨rfl, ⟨n0, rfl⟩⟩)
 go_quiet ((go_at_call 79; exact Calls.quiet_of ((in6_calls _ _ _ _ (by assumption) _).mono fun _ _ h => ⟨h.1, h.2.out⟩)))
 go_wp2_with fail
 go_ret
 exact ⟨rfl, by repeat (with_reducible first | exact Below.refl _ _ | apply pw_below_drewN | apply below_drew1 | apply below_alloc | refine below_set ?_ (by simp))⟩
set_option maxHeartbeats 2000000 in
set_option maxRecDepth 100000 in
theorem fit_1m12 (a2 a6 a7 a8 : Int) (w : World) (g6 : decide (1900 ≤ a6 ∧ a6 ≤ 2199) = true) (g7 : decide (a6 ≤ a7 ∧ a7 ≤ 2199) = true) (g8 : decide (0 ≤ a8 ∧ a8 ≤ 2) = true) (b : Bool) (c1 : decide (1 ≤ a2 ∧ a2 ≤ 31) = b) : Calls Try.prog 85 #[.agg #[.int .i64 1, .int .i64 12, .int .i64 a2, .int .i64 0, .int .i64 0, .int .i64 0, .int .i64 a6, .int .i64 a7, .int .i64 a8]] w (Fits b w) := by
 have c0 : decide ((1 : Int) ≤ 12 ∧ (12 : Int) ≤ 12) = true := by decide
 go_enter Try.func85, Try.ntmps85
 go_wp2_with (go_at_call 79; refine (in6_calls _ _ _ _ (by assumption) _).mono ?_; rintro e w' ⟨rfl, ⟨n0, rfl⟩⟩)
 go_quiet ((go_at_call 79; exact Calls.quiet_of ((in6_calls _ _ _ _ (by assumption) _).mono fun _ _ h => ⟨h.1, h.2.out⟩)))
 go_wp2_with fail
 go_ret
 exact ⟨rfl, by repeat (with_reducible first | exact Below.refl _ _ | apply pw_below_drewN | apply below_drew1 | apply below_alloc | refine below_set ?_ (by simp))⟩
theorem not_years {a0 a1 a2 a3 a4 a5 a6 a7 a8 : Int} (h4 : ¬ a0 = 4) (h : ¬ (1900 ≤ a6 ∧ a6 ≤ 2199 ∧ a6 ≤ a7 ∧ a7 ≤ 2199 ∧ 0 ≤ a8 ∧ a8 ≤ 2)) : M.may ⟨a0, a1, a2, a3, a4, a5, a6, a7, a8⟩ = false := by
 have hy : M.yearsOk ⟨a0, a1, a2, a3, a4, a5, a6, a7, a8⟩ = false := decide_eq_false h
 unfold M.may
 simp only [hy, Bool.and_false, h4, if_false]
 repeat' split
 all_goals rfl
theorem fit_calls (a0 a1 a2 a3 a4 a5 a6 a7 a8 : Int) (w : World) :
  Calls Try.prog 85 #[.agg #[.int .i64 a0, .int .i64 a1, .int .i64 a2, .int .i64 a3, .int .i64 a4, .int .i64 a5, .int .i64 a6, .int .i64 a7, .int .i64 a8]] w (Fits (M.may ⟨a0, a1, a2, a3, a4, a5, a6, a7, a8⟩) w) := by
 by_cases k4 : a0 = 4
 ·
  subst k4
  by_cases z1 : a1 = 0
  rotate_left
  ·
   rw [show M.may ⟨4, a1, a2, a3, a4, a5, a6, a7, a8⟩ = false by simp [M.may, z1]]; exact fit_4n0 _ _ _ _ _ _ _ _ w z1
  subst z1
  by_cases z3 : a3 = 0
  rotate_left
  ·
   rw [show M.may ⟨4, 0, a2, a3, a4, a5, a6, a7, a8⟩ = false by simp [M.may, z3]]; exact fit_4n1 _ _ _ _ _ _ _ w z3
  subst z3
  by_cases z4 : a4 = 0
  rotate_left
  ·
   rw [show M.may ⟨4, 0, a2, 0, a4, a5, a6, a7, a8⟩ = false by simp [M.may, z4]]; exact fit_4n2 _ _ _ _ _ _ w z4
  subst z4
  by_cases z5 : a5 = 0
  rotate_left
  ·
   rw [show M.may ⟨4, 0, a2, 0, 0, a5, a6, a7, a8⟩ = false by simp [M.may, z5]]; exact fit_4n3 _ _ _ _ _ w z5
  subst z5
  by_cases z6 : a6 = 0
  rotate_left
  ·
   rw [show M.may ⟨4, 0, a2, 0, 0, 0, a6, a7, a8⟩ = false by simp [M.may, z6]]; exact fit_4n4 _ _ _ _ w z6
  subst z6
  by_cases z7 : a7 = 0
  rotate_left
  ·
   rw [show M.may ⟨4, 0, a2, 0, 0, 0, 0, a7, a8⟩ = false by simp [M.may, z7]]; exact fit_4n5 _ _ _ w z7
  subst z7
  by_cases z8 : a8 = 0
  rotate_left
  ·
   rw [show M.may ⟨4, 0, a2, 0, 0, 0, 0, 0, a8⟩ = false by simp [M.may, z8]]; exact fit_4n6 _ _ w z8
  subst z8
  exact fit_4 _ _ _ _ _ _ _ _ w _ (by simp [M.may]) ⟨rfl, rfl, rfl, rfl, rfl, rfl, rfl⟩
 by_cases hy : 1900 ≤ a6 ∧ a6 ≤ 2199 ∧ a6 ≤ a7 ∧ a7 ≤ 2199 ∧ 0 ≤ a8 ∧ a8 ≤ 2
 rotate_left
 ·
  rw [not_years k4 hy]; exact fit_y _ _ _ _ _ _ _ _ _ w k4 hy
 have hyo : decide (1900 ≤ a6 ∧ a6 ≤ 2199 ∧ a6 ≤ a7 ∧ a7 ≤ 2199 ∧ 0 ≤ a8 ∧ a8 ≤ 2) = true := decide_eq_true hy
 have g6 := decide_eq_true (show 1900 ≤ a6 ∧ a6 ≤ 2199 from ⟨hy.1, hy.2.1⟩)
 have g7 := decide_eq_true (show a6 ≤ a7 ∧ a7 ≤ 2199 from ⟨hy.2.2.1, hy.2.2.2.1⟩)
 have g8 := decide_eq_true (show 0 ≤ a8 ∧ a8 ≤ 2 from hy.2.2.2.2)
 by_cases k1 : a0 = 1
 ·
  subst k1
  by_cases z3 : a3 = 0
  rotate_left
  ·
   rw [show M.may ⟨1, a1, a2, a3, a4, a5, a6, a7, a8⟩ = false by simp [M.may, z3]]; exact fit_1n0 _ _ _ _ _ _ _ _ w g6 g7 g8 z3
  subst z3
  by_cases z4 : a4 = 0
  rotate_left
  ·
   rw [show M.may ⟨1, a1, a2, 0, a4, a5, a6, a7, a8⟩ = false by simp [M.may, z4]]; exact fit_1n1 _ _ _ _ _ _ _ w g6 g7 g8 z4
  subst z4
  by_cases z5 : a5 = 0
  rotate_left
  ·
   rw [show M.may ⟨1, a1, a2, 0, 0, a5, a6, a7, a8⟩ = false by simp [M.may, z5]]; exact fit_1n2 _ _ _ _ _ _ w g6 g7 g8 z5
  subst z5
  by_cases hm : 1 ≤ a1 ∧ a1 ≤ 12
  rotate_left
  ·
   rw [show M.may ⟨1, a1, a2, 0, 0, 0, a6, a7, a8⟩ = false by unfold M.may; rw [if_pos rfl]; rw [Bool.and_eq_false_iff]; left; rw [decide_eq_false_iff_not]; simp only; omega]
   exact fit_1c0 _ _ _ _ _ w g6 g7 g8 (decide_eq_false hm)
  have hv : ∀ {p : Prop} [Decidable p], p → M.may ⟨1, a1, a2, 0, 0, 0, a6, a7, a8⟩ = decide (1 ≤ a2 ∧ a2 ≤ M.mlen 2000 a1) := by
   intro p _ _
   show (decide (1 ≤ a1 ∧ a1 ≤ 12 ∧ (0 : Int) = 0 ∧ (0 : Int) = 0 ∧ (0 : Int) = 0 ∧ 1 ≤ a2 ∧ a2 ≤ M.mlen 2000 a1) && decide (1900 ≤ a6 ∧ a6 ≤ 2199 ∧ a6 ≤ a7 ∧ a7 ≤ 2199 ∧ 0 ≤ a8 ∧ a8 ≤ 2)) = _
   rw [hyo, Bool.and_true, decide_eq_decide]
   exact ⟨fun h => ⟨h.2.2.2.2.2.1, h.2.2.2.2.2.2⟩, fun h => ⟨hm.1, hm.2, rfl, rfl, rfl, h.1, h.2⟩⟩
  rw [hv trivial]
  have h12 : a1 = 1 ∨ a1 = 2 ∨ a1 = 3 ∨ a1 = 4 ∨ a1 = 5 ∨ a1 = 6 ∨ a1 = 7 ∨ a1 = 8 ∨ a1 = 9 ∨ a1 = 10 ∨ a1 = 11 ∨ a1 = 12 := by omega
  rcases h12 with rfl | rfl | rfl | rfl | rfl | rfl | rfl | rfl | rfl | rfl | rfl | rfl
  ·
   exact fit_1m1 _ _ _ _ w g6 g7 g8 _ rfl
  ·
   exact fit_1m2 _ _ _ _ w g6 g7 g8 _ rfl
  ·
   exact fit_1m3 _ _ _ _ w g6 g7 g8 _ rfl
  ·
   exact fit_1m4 _ _ _ _ w g6 g7 g8 _ rfl
  ·
   exact fit_1m5 _ _ _ _ w g6 g7 g8 _ rfl
  ·
   exact fit_1m6 _ _ _ _ w g6 g7 g8 _ rfl
  ·
   exact fit_1m7 _ _ _ _ w g6 g7 g8 _ rfl
  ·
   exact fit_1m8 _ _ _ _ w g6 g7 g8 _ rfl
  ·
   exact fit_1m9 _ _ _ _ w g6 g7 g8 _ rfl
  ·
   exact fit_1m10 _ _ _ _ w g6 g7 g8 _ rfl
  ·
   exact fit_1m11 _ _ _ _ w g6 g7 g8 _ rfl
  ·
   exact fit_1m12 _ _ _ _ w g6 g7 g8 _ rfl
 by_cases k2 : a0 = 2
 ·
  subst k2
  have no : ∀ {q : Prop} [Decidable q], ¬ q → (decide q && M.yearsOk ⟨2, a1, a2, a3, a4, a5, a6, a7, a8⟩) = false := by intro q _ h; simp [h]
  have hv : M.may ⟨2, a1, a2, a3, a4, a5, a6, a7, a8⟩ = (decide (a2 = 0 ∧ a5 = 0 ∧ 1 ≤ a1 ∧ a1 ≤ 12 ∧ 0 ≤ a4 ∧ a4 ≤ 6 ∧ 1 ≤ a3 ∧ a3 ≤ 5) && M.yearsOk ⟨2, a1, a2, a3, a4, a5, a6, a7, a8⟩) := rfl
  rw [hv]
  by_cases z2 : a2 = 0
  rotate_left
  ·
   rw [no (by omega)]; exact fit_2n0 _ _ _ _ _ _ _ _ w g6 g7 g8 z2
  subst z2
  by_cases z5 : a5 = 0
  rotate_left
  ·
   rw [no (by omega)]; exact fit_2n1 _ _ _ _ _ _ _ w g6 g7 g8 z5
  subst z5
  by_cases c1 : 1 ≤ a1 ∧ a1 ≤ 12
  rotate_left
  ·
   rw [no (by omega)]; exact fit_2c0 _ _ _ _ _ _ w g6 g7 g8 (decide_eq_false c1)
  by_cases c4 : 0 ≤ a4 ∧ a4 ≤ 6
  rotate_left
  ·
   rw [no (by omega)]; exact fit_2c1 _ _ _ _ _ _ w g6 g7 g8 (decide_eq_true c1) (decide_eq_false c4)
  by_cases c3 : 1 ≤ a3 ∧ a3 ≤ 5
  rotate_left
  ·
   rw [no (by omega)]; exact fit_2c2 _ _ _ _ _ _ w g6 g7 g8 (decide_eq_true c1) (decide_eq_true c4) (decide_eq_false c3)
  rw [show (decide ((0 : Int) = 0 ∧ (0 : Int) = 0 ∧ 1 ≤ a1 ∧ a1 ≤ 12 ∧ 0 ≤ a4 ∧ a4 ≤ 6 ∧ 1 ≤ a3 ∧ a3 ≤ 5) && M.yearsOk ⟨2, a1, 0, a3, a4, 0, a6, a7, a8⟩) = true by rw [Bool.and_eq_true]; exact ⟨decide_eq_true (by omega), hyo⟩]
  exact fit_2c3 _ _ _ _ _ _ w g6 g7 g8 (decide_eq_true c1) (decide_eq_true c4) (decide_eq_true c3)
 by_cases k3 : a0 = 3
 ·
  subst k3
  have no : ∀ {q : Prop} [Decidable q], ¬ q → (decide q && M.yearsOk ⟨3, a1, a2, a3, a4, a5, a6, a7, a8⟩) = false := by intro q _ h; simp [h]
  have hv : M.may ⟨3, a1, a2, a3, a4, a5, a6, a7, a8⟩ = (decide (a1 = 0 ∧ a2 = 0 ∧ a3 = 0 ∧ a4 = 0 ∧ -100 ≤ a5 ∧ a5 ≤ 100) && M.yearsOk ⟨3, a1, a2, a3, a4, a5, a6, a7, a8⟩) := rfl
  rw [hv]
  by_cases z1 : a1 = 0
  rotate_left
  ·
   rw [no (by omega)]; exact fit_3n0 _ _ _ _ _ _ _ _ w g6 g7 g8 z1
  subst z1
  by_cases z2 : a2 = 0
  rotate_left
  ·
   rw [no (by omega)]; exact fit_3n1 _ _ _ _ _ _ _ w g6 g7 g8 z2
  subst z2
  by_cases z3 : a3 = 0
  rotate_left
  ·
   rw [no (by omega)]; exact fit_3n2 _ _ _ _ _ _ w g6 g7 g8 z3
  subst z3
  by_cases z4 : a4 = 0
  rotate_left
  ·
   rw [no (by omega)]; exact fit_3n3 _ _ _ _ _ w g6 g7 g8 z4
  subst z4
  by_cases c5 : -100 ≤ a5 ∧ a5 ≤ 100
  rotate_left
  ·
   rw [no (by omega)]; exact fit_3c0 _ _ _ _ w g6 g7 g8 (decide_eq_false c5)
  rw [show (decide ((0 : Int) = 0 ∧ (0 : Int) = 0 ∧ (0 : Int) = 0 ∧ (0 : Int) = 0 ∧ -100 ≤ a5 ∧ a5 ≤ 100) && M.yearsOk ⟨3, 0, 0, 0, 0, a5, a6, a7, a8⟩) = true by rw [Bool.and_eq_true]; exact ⟨decide_eq_true (by omega), hyo⟩]
  exact fit_3c1 _ _ _ _ w g6 g7 g8 (decide_eq_true c5)
 rw [show M.may ⟨a0, a1, a2, a3, a4, a5, a6, a7, a8⟩ = false by unfold M.may; simp only; rw [if_neg k1, if_neg k2, if_neg k3, if_neg k4]]
 exact fit_0 _ _ _ _ _ _ _ _ _ w g6 g7 g8 k1 k2 k3 k4
end Go.Proofs.Ytoncignjcgjhhaa.H
namespace Go.Proofs.Ytoncignjcgjhhaa.Q
open Go.RowKit Go.Proofs.YtoncignjcgjhhaaW.PrintWords Go.Proofs.YtoncignjcgjhhaaW.PrintLast Go.Proofs.YtoncignjcgjhhaaW.PrintMore
attribute [local go_sem] max2_int min2_int max_two min_two max_three min_three max_four min_four   -- for this text's walks alone
def tenorref6_fit.f (a0_0 a0_1 a0_2 a0_3 a0_4 a0_5 a0_6 a0_7 a0_8 : Int) : Option (Bool) := some (Go.Proofs.Ytoncignjcgjhhaa.M.may ⟨a0_0, a0_1, a0_2, a0_3, a0_4, a0_5, a0_6, a0_7, a0_8⟩)
theorem tenorref6_fit.calls (a0_0 a0_1 a0_2 a0_3 a0_4 a0_5 a0_6 a0_7 a0_8 : Int) (r : Bool) (w : World) (h : tenorref6_fit.f a0_0 a0_1 a0_2 a0_3 a0_4 a0_5 a0_6 a0_7 a0_8 = some r) :
  Calls Try.prog 85 #[.agg #[.int .i64 a0_0, .int .i64 a0_1, .int .i64 a0_2, .int .i64 a0_3, .int .i64 a0_4, .int .i64 a0_5, .int .i64 a0_6, .int .i64 a0_7, .int .i64 a0_8]] w fun e w' => e = .returned (.bool r) ∧ Below w.heap.size w w' := by
 have e := Option.some.inj h;have c := Go.Proofs.Ytoncignjcgjhhaa.H.fit_calls a0_0 a0_1 a0_2 a0_3 a0_4 a0_5 a0_6 a0_7 a0_8 w
 rw [e] at c
 exact c
end Go.Proofs.Ytoncignjcgjhhaa.Q
namespace Go.Proofs.Ytoncignjcgjhhaa.Q
open Go.RowKit Go.Proofs.YtoncignjcgjhhaaW.PrintWords Go.Proofs.YtoncignjcgjhhaaW.PrintLast Go.Proofs.YtoncignjcgjhhaaW.PrintMore
attribute [local go_sem] max2_int min2_int max_two min_two max_three min_three max_four min_four   -- for this text's walks alone
def tenorref6_Check.l0 : Nat → Int → Int → List (S63) → Option (Int × Int)
  | 0, _, _, _ => none
  | k + 1, x4, x186000, x186001 => if x4 < (x186001.length : Int) then (if 0 ≤ x4 then ((tenorref6_fit.f ((rd_T63 x186001 x4).f0) ((rd_T63 x186001 x4).f1) ((rd_T63 x186001 x4).f2) ((rd_T63 x186001 x4).f3) ((rd_T63 x186001 x4).f4) ((rd_T63 x186001 x4).f5) ((rd_T63 x186001 x4).f6) ((rd_T63 x186001 x4).f7) ((rd_T63 x186001 x4).f8)).bind fun t188 => (if t188 = true then (tenorref6_Check.l0 k (wrap64 (x4 + 1)) x186000 x186001) else (some (60, x4)))) else (none)) else (some (0, 0))
def tenorref6_Check.f (k : Nat) (a0_0 : Int) (l0_1 : List (S63)) : Option (Int × Int) := if (l0_1.length : Int) > 64 then (some (2, 0)) else ((tenorref6_in.f a0_0 0 126).bind fun t186 => (if t186 = true then (tenorref6_Check.l0 k 0 a0_0 l0_1) else (some (60, (-1)))))
set_option maxHeartbeats 8000000 in
set_option maxRecDepth 100000 in
theorem tenorref6_Check.calls (k : Nat) (a0_0 : Int) (A0_1 : Option Addr) (c0_1 : Nat) (l0_1 : List (S63)) (r1 r2 : Int) (w : World) (hr0_1 : Kd.C k63 w A0_1 l0_1.length l0_1) (hc0_1 : l0_1.length ≤ c0_1) (h : tenorref6_Check.f k a0_0 l0_1 = some (r1, r2)) :
  Calls Try.prog 45 #[.agg #[.int .i64 a0_0, .slice A0_1 l0_1.length c0_1]] w fun e w' => e = .returned (.tuple #[.int .i64 r1, .int .i64 r2]) ∧ Below w.heap.size w w' := by
 have hu24 := Try.underlying24;have hu63 := Try.underlying63;have HR0_1 := Aside0.mk hr0_1;have HC0_1 := Aside0.mk hc0_1;clear hr0_1 hc0_1
 have HB := Aside0.mk (Below.refl w.heap.size w)
 have H : (if (l0_1.length : Int) > 64 then (some (2, 0)) else ((tenorref6_in.f a0_0 0 126).bind fun t186 => (if t186 = true then (tenorref6_Check.l0 k 0 a0_0 l0_1) else (some (60, (-1)))))) = some (r1, r2) := h
 clear h
 by_cases c2 : (l0_1.length : Int) > 64
 ·
  rw [if_pos c2] at H
  have c2b0 : decide (64 < (l0_1.length : Int)) = true := decide_eq_true c2
  have c2b1 : decide (64 < l0_1.length) = true := decide_eq_true (by omega)
  clear c2
  simp only [Option.some.injEq, Prod.mk.injEq] at H
  obtain ⟨rfl, rfl⟩ := H
  go_enter Try.func45, Try.ntmps45
  go_wp2_with (first | ((with_reducible refine gate_dst (N := 1) rfl ?_); refine box_event ?hg (N := 1) ?hd (cs := #[.int .i64 a0_0, .slice A0_1 l0_1.length c0_1]) (t := 24) ?hr ?_; (case hd => rfl); (case hg => rfl); (case hr => first | (go_simp; done) | (go_simp; rfl)); intro gb185 hg w3 hbox hb; have BK185 := Aside0.mk (hbox); have GW185 := bG hg; have GE185 := bG hg; replace HB := bS hb; clear hb hbox hg; obtain ⟨_,_,_,_⟩ := blk2 BK185))
  go_ret2
  exact ⟨eW, bB⟩
 ·
  rw [if_neg c2] at H
  have c2b0 : decide (64 < (l0_1.length : Int)) = false := decide_eq_false c2
  have c2b1 : decide (64 < l0_1.length) = false := decide_eq_false (by omega)
  clear c2;replace H := Option.bind_eq_some_iff.mp H
  obtain ⟨t186, A50, H⟩ := H
  replace H : (if t186 = true then (tenorref6_Check.l0 k 0 a0_0 l0_1) else (some (60, (-1)))) = some (r1, r2) := H
  have A5 := Aside0.mk A50;clear A50
  by_cases c6 : t186 = true
  ·
   subst c6
   have H1 : (tenorref6_Check.l0 k 0 a0_0 l0_1) = some (r1, r2) := by rw [if_pos rfl] at H; exact H
   clear H;have H := H1;clear H1;have H' := Aside0.mk H;clear H
   go_enter Try.func45, Try.ntmps45
   go_wp2_with (first | ((with_reducible refine gate_dst (N := 1) rfl ?_); refine box_event ?hg (N := 1) ?hd (cs := #[.int .i64 a0_0, .slice A0_1 l0_1.length c0_1]) (t := 24) ?hr ?_; (case hd => rfl); (case hg => rfl); (case hr => first | (go_simp; done) | (go_simp; rfl)); intro gb185 hg w7 hbox hb; have BK185 := Aside0.mk (hbox); have GW185 := bG hg; have GE185 := bG hg; replace HB := bS hb; clear hb hbox hg; obtain ⟨_,_,_,_⟩ := blk2 BK185) | ((with_reducible refine gG 79 ?_); refine goA (some 11) Try.func79 #[.int .i64 a0_0, .int .i64 0, .int .i64 126] ?_; (with_reducible refine (tenorref6_in.calls a0_0 0 126 true _ A5.out).mono ?_); rintro e w' ⟨rfl, ⟨nd, rfl⟩⟩; refine ⟨_, rfl, ?_⟩))
   go_loopg [4] k (fun kq v4 w' => ∃ (x4_1 : Int), v4 = .int .i64 x4_1 ∧ Aside0 (tenorref6_Check.l0 kq x4_1 a0_0 l0_1 = some (r1, r2)) ∧ Aside0 (kq ≤ k) ∧ Aside0 (w'.heap[gb185]? = some (.cells #[.int .i64 a0_0, (.slice A0_1 l0_1.length c0_1)] 24 (0, 0))) ∧ Aside0 (Below w.heap.size w w'))
   case atStart => exact ⟨(0), eS, H', ⟨Nat.le_refl _⟩, ⟨(bk BK185)⟩, ⟨bB⟩⟩
   case round =>
    clear H'
    obtain ⟨x4_1, rfl, HA, HK1, BK185, HB⟩ := hrel
    cases gk with
    | zero => exact absurd HA.out (by simp [tenorref6_Check.l0])
    | succ k1 =>
     have H := HA.out;clear HA
     simp only [tenorref6_Check.l0] at H
     by_cases c9 : x4_1 < (l0_1.length : Int)
     ·
      rw [if_pos c9] at H
      have c9b0 : decide (x4_1 < (l0_1.length : Int)) = true := decide_eq_true c9
      clear c9
      by_cases c10 : 0 ≤ x4_1
      ·
       rw [if_pos c10] at H
       have c10b0 : decide (0 ≤ x4_1) = true := decide_eq_true c10
       clear c10;replace H := Option.bind_eq_some_iff.mp H
       obtain ⟨t188, A110, H⟩ := H
       replace H : (if t188 = true then (tenorref6_Check.l0 k1 (wrap64 (x4_1 + 1)) a0_0 l0_1) else (some (60, x4_1))) = some (r1, r2) := H
       have A11 := Aside0.mk A110;clear A110
       by_cases c12 : t188 = true
       ·
        subst c12
        have H1 : (tenorref6_Check.l0 k1 (wrap64 (x4_1 + 1)) a0_0 l0_1) = some (r1, r2) := by rw [if_pos rfl] at H; exact H
        clear H;have H := H1;clear H1;have H' := Aside0.mk H;clear H
        obtain ⟨_,_,_,_⟩ := blk2 BK185
        have p187 : 0 ≤ (x4_1 : Int) := of_decide_eq_true tA
        have q187 : x4_1 < (l0_1.length : Int) := of_decide_eq_true tA
        obtain ⟨ad187, e187, hx187_0, hx187_1, hx187_2, hx187_3, hx187_4, hx187_5, hx187_6, hx187_7, hx187_8⟩ := at_T63 HR0_1.out x4_1 p187 q187
        cases e187
        replace hx187_0 := (HB.out.cell (World.block_lt_of_cell? w _ hx187_0)).trans hx187_0
        replace hx187_1 := (HB.out.cell (World.block_lt_of_cell? w _ hx187_1)).trans hx187_1
        replace hx187_2 := (HB.out.cell (World.block_lt_of_cell? w _ hx187_2)).trans hx187_2
        replace hx187_3 := (HB.out.cell (World.block_lt_of_cell? w _ hx187_3)).trans hx187_3
        replace hx187_4 := (HB.out.cell (World.block_lt_of_cell? w _ hx187_4)).trans hx187_4
        replace hx187_5 := (HB.out.cell (World.block_lt_of_cell? w _ hx187_5)).trans hx187_5
        replace hx187_6 := (HB.out.cell (World.block_lt_of_cell? w _ hx187_6)).trans hx187_6
        replace hx187_7 := (HB.out.cell (World.block_lt_of_cell? w _ hx187_7)).trans hx187_7
        replace hx187_8 := (HB.out.cell (World.block_lt_of_cell? w _ hx187_8)).trans hx187_8
        replace p187 := eq_true p187;replace q187 := eq_true q187
        go_wp2_with (first | ((with_reducible refine gG 85 ?_); refine goA (some 25) Try.func85 #[.agg #[.int .i64 ((rd_T63 l0_1 x4_1).f0), .int .i64 ((rd_T63 l0_1 x4_1).f1), .int .i64 ((rd_T63 l0_1 x4_1).f2), .int .i64 ((rd_T63 l0_1 x4_1).f3), .int .i64 ((rd_T63 l0_1 x4_1).f4), .int .i64 ((rd_T63 l0_1 x4_1).f5), .int .i64 ((rd_T63 l0_1 x4_1).f6), .int .i64 ((rd_T63 l0_1 x4_1).f7), .int .i64 ((rd_T63 l0_1 x4_1).f8)]] ?_; (with_reducible refine (tenorref6_fit.calls ((rd_T63 l0_1 x4_1).f0) ((rd_T63 l0_1 x4_1).f1) ((rd_T63 l0_1 x4_1).f2) ((rd_T63 l0_1 x4_1).f3) ((rd_T63 l0_1 x4_1).f4) ((rd_T63 l0_1 x4_1).f5) ((rd_T63 l0_1 x4_1).f6) ((rd_T63 l0_1 x4_1).f7) ((rd_T63 l0_1 x4_1).f8) true _ A11.out).mono ?_); rintro e w14 ⟨rfl, hb⟩; refine ⟨_, rfl, ?_⟩; replace BK185 := bK BK185 hb; replace HB := bS hb; (try clear hb); (try clear hb2); (try clear hk); (try clear hi)))
        go_roundg k1
        case measure => have := HK1.out; omega
        case rel => exact ⟨(wrap64 (x4_1 + 1)), eS, H', ⟨by have := HK1.out; omega⟩, ⟨(bk BK185)⟩, ⟨bB⟩⟩
       ·
        replace c12 := Bool.eq_false_iff.mpr c12;subst c12
        have H1 : (some (60, x4_1)) = some (r1, r2) := by rw [if_neg (show ¬ (false = true) by decide)] at H; exact H
        clear H;have H := H1;clear H1
        simp only [Option.some.injEq, Prod.mk.injEq] at H
        obtain ⟨rfl, rfl⟩ := H
        obtain ⟨_,_,_,_⟩ := blk2 BK185
        have p187 : 0 ≤ (x4_1 : Int) := of_decide_eq_true tA
        have q187 : x4_1 < (l0_1.length : Int) := of_decide_eq_true tA
        obtain ⟨ad187, e187, hx187_0, hx187_1, hx187_2, hx187_3, hx187_4, hx187_5, hx187_6, hx187_7, hx187_8⟩ := at_T63 HR0_1.out x4_1 p187 q187
        cases e187
        replace hx187_0 := (HB.out.cell (World.block_lt_of_cell? w _ hx187_0)).trans hx187_0
        replace hx187_1 := (HB.out.cell (World.block_lt_of_cell? w _ hx187_1)).trans hx187_1
        replace hx187_2 := (HB.out.cell (World.block_lt_of_cell? w _ hx187_2)).trans hx187_2
        replace hx187_3 := (HB.out.cell (World.block_lt_of_cell? w _ hx187_3)).trans hx187_3
        replace hx187_4 := (HB.out.cell (World.block_lt_of_cell? w _ hx187_4)).trans hx187_4
        replace hx187_5 := (HB.out.cell (World.block_lt_of_cell? w _ hx187_5)).trans hx187_5
        replace hx187_6 := (HB.out.cell (World.block_lt_of_cell? w _ hx187_6)).trans hx187_6
        replace hx187_7 := (HB.out.cell (World.block_lt_of_cell? w _ hx187_7)).trans hx187_7
        replace hx187_8 := (HB.out.cell (World.block_lt_of_cell? w _ hx187_8)).trans hx187_8
        replace p187 := eq_true p187;replace q187 := eq_true q187
        go_wp2_with (first | ((with_reducible refine gG 85 ?_); refine goA (some 25) Try.func85 #[.agg #[.int .i64 ((rd_T63 l0_1 x4_1).f0), .int .i64 ((rd_T63 l0_1 x4_1).f1), .int .i64 ((rd_T63 l0_1 x4_1).f2), .int .i64 ((rd_T63 l0_1 x4_1).f3), .int .i64 ((rd_T63 l0_1 x4_1).f4), .int .i64 ((rd_T63 l0_1 x4_1).f5), .int .i64 ((rd_T63 l0_1 x4_1).f6), .int .i64 ((rd_T63 l0_1 x4_1).f7), .int .i64 ((rd_T63 l0_1 x4_1).f8)]] ?_; (with_reducible refine (tenorref6_fit.calls ((rd_T63 l0_1 x4_1).f0) ((rd_T63 l0_1 x4_1).f1) ((rd_T63 l0_1 x4_1).f2) ((rd_T63 l0_1 x4_1).f3) ((rd_T63 l0_1 x4_1).f4) ((rd_T63 l0_1 x4_1).f5) ((rd_T63 l0_1 x4_1).f6) ((rd_T63 l0_1 x4_1).f7) ((rd_T63 l0_1 x4_1).f8) false _ A11.out).mono ?_); rintro e w16 ⟨rfl, hb⟩; refine ⟨_, rfl, ?_⟩; replace BK185 := bK BK185 hb; replace HB := bS hb; (try clear hb); (try clear hb2); (try clear hk); (try clear hi)))
        go_ret2
        exact ⟨eW, bB⟩
      ·
       rw [if_neg c10] at H
       exact absurd H (by simp)
     ·
      rw [if_neg c9] at H
      have c9b0 : decide (x4_1 < (l0_1.length : Int)) = false := decide_eq_false c9
      clear c9
      simp only [Option.some.injEq, Prod.mk.injEq] at H
      obtain ⟨rfl, rfl⟩ := H
      obtain ⟨_,_,_,_⟩ := blk2 BK185
      go_wp2
      go_ret2
      exact ⟨eW, bB⟩
  ·
   replace c6 := Bool.eq_false_iff.mpr c6;subst c6
   have H1 : (some (60, (-1))) = some (r1, r2) := by rw [if_neg (show ¬ (false = true) by decide)] at H; exact H
   clear H;have H := H1;clear H1
   simp only [Option.some.injEq, Prod.mk.injEq] at H
   obtain ⟨rfl, rfl⟩ := H
   go_enter Try.func45, Try.ntmps45
   go_wp2_with (first | ((with_reducible refine gate_dst (N := 1) rfl ?_); refine box_event ?hg (N := 1) ?hd (cs := #[.int .i64 a0_0, .slice A0_1 l0_1.length c0_1]) (t := 24) ?hr ?_; (case hd => rfl); (case hg => rfl); (case hr => first | (go_simp; done) | (go_simp; rfl)); intro gb185 hg w18 hbox hb; have BK185 := Aside0.mk (hbox); have GW185 := bG hg; have GE185 := bG hg; replace HB := bS hb; clear hb hbox hg; obtain ⟨_,_,_,_⟩ := blk2 BK185) | ((with_reducible refine gG 79 ?_); refine goA (some 11) Try.func79 #[.int .i64 a0_0, .int .i64 0, .int .i64 126] ?_; (with_reducible refine (tenorref6_in.calls a0_0 0 126 false _ A5.out).mono ?_); rintro e w' ⟨rfl, ⟨nd, rfl⟩⟩; refine ⟨_, rfl, ?_⟩))
   go_ret2
   exact ⟨eW, bB⟩
def tenorref5_Leap.f (a0 : Int) : Option (Bool) := if (Int.tmod a0 4) = 0 then (if (Int.tmod a0 100) = 0 then (some ((Int.tmod a0 400) == 0)) else (some true)) else (some ((Int.tmod a0 400) == 0))
set_option maxHeartbeats 8000000 in
set_option maxRecDepth 100000 in
theorem tenorref5_Leap.calls (a0 : Int) (r : Bool) (w : World) (h : tenorref5_Leap.f a0 = some r) :
  Calls Try.prog 98 #[.int .i64 a0] w fun e w' => e = .returned (.bool r) ∧ Drawn0 w w' := by
 have H : (if (Int.tmod a0 4) = 0 then (if (Int.tmod a0 100) = 0 then (some ((Int.tmod a0 400) == 0)) else (some true)) else (some ((Int.tmod a0 400) == 0))) = some r := h
 clear h
 by_cases c2 : (Int.tmod a0 4) = 0
 ·
  rw [if_pos c2] at H
  have c2b0 : ((Int.tmod a0 4) == 0) = true := beq_iff_eq.mpr c2
  have c2b1 : ((Int.tmod a0 4) != 0) = false := bne_eq_false_iff_eq.mpr c2
  clear c2
  by_cases c3 : (Int.tmod a0 100) = 0
  ·
   rw [if_pos c3] at H
   have c3b0 : ((Int.tmod a0 100) == 0) = true := beq_iff_eq.mpr c3
   have c3b1 : ((Int.tmod a0 100) != 0) = false := bne_eq_false_iff_eq.mpr c3
   clear c3
   obtain rfl := Option.some.inj H
   go_enter Try.func98, Try.ntmps98
   go_wp2
   go_ret
   exact ⟨eS, eD⟩
  ·
   rw [if_neg c3] at H
   have c3b0 : ((Int.tmod a0 100) == 0) = false := beq_eq_false_iff_ne.mpr c3
   have c3b1 : ((Int.tmod a0 100) != 0) = true := bne_iff_ne.mpr c3
   obtain rfl := Option.some.inj H
   go_enter Try.func98, Try.ntmps98
   go_wp2
   go_ret
   exact ⟨eS, eD⟩
 ·
  rw [if_neg c2] at H
  have c2b0 : ((Int.tmod a0 4) == 0) = false := beq_eq_false_iff_ne.mpr c2
  have c2b1 : ((Int.tmod a0 4) != 0) = true := bne_iff_ne.mpr c2
  obtain rfl := Option.some.inj H
  go_enter Try.func98, Try.ntmps98
  go_wp2
  go_ret
  exact ⟨eS, eD⟩
end Go.Proofs.Ytoncignjcgjhhaa.Q
namespace Go.Proofs.Ytoncignjcgjhhaa.Q
open Go.RowKit Go.Proofs.YtoncignjcgjhhaaW.PrintWords Go.Proofs.YtoncignjcgjhhaaW.PrintLast Go.Proofs.YtoncignjcgjhhaaW.PrintMore
attribute [local go_sem] max2_int min2_int max_two min_two max_three min_three max_four min_four   -- for this text's walks alone
def tenorref5_length.j0 : Nat → Int → Int → Bool → Option (Int)
  | 0, _, _, _ => none
  | k + 1, x0, x5, x6 => if x6 = true then (some 30) else (if x5 = 2 then ((tenorref5_Leap.f x0).bind fun t189 => (if t189 = true then (some 29) else (some 28))) else (some 31))
def tenorref5_length.f (k : Nat) (a0 a1 : Int) : Option (Int) := if a1 = 4 then (tenorref5_length.j0 k a0 a1 (a1 == 4)) else (if a1 = 6 then (tenorref5_length.j0 k a0 a1 (a1 == 6)) else (if a1 = 9 then (tenorref5_length.j0 k a0 a1 (a1 == 9)) else (tenorref5_length.j0 k a0 a1 (a1 == 11))))
set_option maxHeartbeats 8000000 in
set_option maxRecDepth 100000 in
theorem tenorref5_length.calls (k : Nat) (a0 a1 r : Int) (w : World) (h : tenorref5_length.f k a0 a1 = some r) :
  Calls Try.prog 124 #[.int .i64 a0, .int .i64 a1] w fun e w' => e = .returned (.int .i64 r) ∧ Drawn0 w w' := by
 have H : (if a1 = 4 then (tenorref5_length.j0 k a0 a1 (a1 == 4)) else (if a1 = 6 then (tenorref5_length.j0 k a0 a1 (a1 == 6)) else (if a1 = 9 then (tenorref5_length.j0 k a0 a1 (a1 == 9)) else (tenorref5_length.j0 k a0 a1 (a1 == 11))))) = some r := h
 clear h;have HC3 := Aside0.mk H;clear H
 go_enter Try.func124, Try.ntmps124
 go_upto_if 6 with (fail)
 go_cut [6] (fun v6 wc => ∃ (kq : Nat) (x6_2 : Bool), v6 = .bool x6_2 ∧ Aside0 (tenorref5_length.j0 kq a0 a1 x6_2 = some r) ∧ Aside0 (kq ≤ k) ∧ Drawn0 w wc)
 case first =>
  have H := HC3.out;clear HC3
  by_cases c4 : a1 = 4
  ·
   rw [if_pos c4] at H
   have c4b0 : (a1 == 4) = true := beq_iff_eq.mpr c4
   have c4b1 : (a1 != 4) = false := bne_eq_false_iff_eq.mpr c4
   clear c4
   (first | rw [c4b0] | (simp only [i64_w, i32_w]; rw [c4b0]) | skip)
   have H' := Aside0.mk H;clear H
   go_wp2
   go_meet
   case rel => exact ⟨_, ((a1 == 4)), eS, H', ⟨eN⟩, eD⟩
  ·
   rw [if_neg c4] at H
   have c4b0 : (a1 == 4) = false := beq_eq_false_iff_ne.mpr c4
   have c4b1 : (a1 != 4) = true := bne_iff_ne.mpr c4
   (first | rw [c4b0] | (simp only [i64_w, i32_w]; rw [c4b0]) | skip)
   by_cases c5 : a1 = 6
   ·
    rw [if_pos c5] at H
    have c5b0 : (a1 == 6) = true := beq_iff_eq.mpr c5
    have c5b1 : (a1 != 6) = false := bne_eq_false_iff_eq.mpr c5
    clear c5;have H' := Aside0.mk H;clear H
    go_wp2
    go_meet
    case rel => exact ⟨_, ((a1 == 6)), eS, H', ⟨eN⟩, eD⟩
   ·
    rw [if_neg c5] at H
    have c5b0 : (a1 == 6) = false := beq_eq_false_iff_ne.mpr c5
    have c5b1 : (a1 != 6) = true := bne_iff_ne.mpr c5
    by_cases c6 : a1 = 9
    ·
     rw [if_pos c6] at H
     have c6b0 : (a1 == 9) = true := beq_iff_eq.mpr c6
     have c6b1 : (a1 != 9) = false := bne_eq_false_iff_eq.mpr c6
     clear c6;have H' := Aside0.mk H;clear H
     go_wp2
     go_meet
     case rel => exact ⟨_, ((a1 == 9)), eS, H', ⟨eN⟩, eD⟩
    ·
     rw [if_neg c6] at H
     have c6b0 : (a1 == 9) = false := beq_eq_false_iff_ne.mpr c6
     have c6b1 : (a1 != 9) = true := bne_iff_ne.mpr c6
     have H' := Aside0.mk H;clear H
     go_wp2
     go_meet
     case rel => exact ⟨_, ((a1 == 11)), eS, H', ⟨eN⟩, eD⟩
 case rest =>
  clear HC3
  obtain ⟨kq, x6_2, rfl, HA, HJ2, ⟨mc2, rfl⟩⟩ := hcut
  cases kq with
  | zero => exact absurd HA.out (by simp [tenorref5_length.j0])
  | succ kj2 =>
   have H := HA.out;clear HA
   simp only [tenorref5_length.j0] at H
   by_cases c7 : x6_2 = true
   ·
    subst c7
    have H1 : (some 30) = some r := by rw [if_pos rfl] at H; exact H
    clear H;have H := H1;clear H1
    obtain rfl := Option.some.inj H
    go_wp2
    go_ret
    exact ⟨eS, eD⟩
   ·
    replace c7 := Bool.eq_false_iff.mpr c7;subst c7
    have H1 : (if a1 = 2 then ((tenorref5_Leap.f a0).bind fun t189 => (if t189 = true then (some 29) else (some 28))) else (some 31)) = some r := by rw [if_neg (show ¬ (false = true) by decide)] at H; exact H
    clear H;have H := H1;clear H1
    by_cases c8 : a1 = 2
    ·
     rw [if_pos c8] at H
     have c8b0 : (a1 == 2) = true := beq_iff_eq.mpr c8
     have c8b1 : (a1 != 2) = false := bne_eq_false_iff_eq.mpr c8
     clear c8;replace H := Option.bind_eq_some_iff.mp H
     obtain ⟨t189, A90, H⟩ := H
     replace H : (if t189 = true then (some 29) else (some 28)) = some r := H
     have A9 := Aside0.mk A90;clear A90
     by_cases c10 : t189 = true
     ·
      subst c10
      have H1 : (some 29) = some r := by rw [if_pos rfl] at H; exact H
      clear H;have H := H1;clear H1
      obtain rfl := Option.some.inj H
      go_wp2_with (first | ((with_reducible refine gG 98 ?_); refine goA (some 14) Try.func98 #[.int .i64 a0] ?_; (with_reducible refine (tenorref5_Leap.calls a0 true _ A9.out).mono ?_); rintro e w' ⟨rfl, ⟨nd, rfl⟩⟩; refine ⟨_, rfl, ?_⟩))
      go_ret
      exact ⟨eS, eD⟩
     ·
      replace c10 := Bool.eq_false_iff.mpr c10;subst c10
      have H1 : (some 28) = some r := by rw [if_neg (show ¬ (false = true) by decide)] at H; exact H
      clear H;have H := H1;clear H1
      obtain rfl := Option.some.inj H
      go_wp2_with (first | ((with_reducible refine gG 98 ?_); refine goA (some 14) Try.func98 #[.int .i64 a0] ?_; (with_reducible refine (tenorref5_Leap.calls a0 false _ A9.out).mono ?_); rintro e w' ⟨rfl, ⟨nd, rfl⟩⟩; refine ⟨_, rfl, ?_⟩))
      go_ret
      exact ⟨eS, eD⟩
    ·
     rw [if_neg c8] at H
     have c8b0 : (a1 == 2) = false := beq_eq_false_iff_ne.mpr c8
     have c8b1 : (a1 != 2) = true := bne_iff_ne.mpr c8
     obtain rfl := Option.some.inj H
     go_wp2
     go_ret
     exact ⟨eS, eD⟩
end Go.Proofs.Ytoncignjcgjhhaa.Q
namespace Go.Proofs.Ytoncignjcgjhhaa.Q
open Go.RowKit Go.Proofs.YtoncignjcgjhhaaW.PrintWords Go.Proofs.YtoncignjcgjhhaaW.PrintLast Go.Proofs.YtoncignjcgjhhaaW.PrintMore
attribute [local go_sem] max2_int min2_int max_two min_two max_three min_three max_four min_four   -- for this text's walks alone
mutual
def tenorref5_Civil.j0 : Nat → Int → Bool → Option (Int × Int × Int × Int)
  | 0, _, _ => none
  | k + 1, x0, x12 => if x12 = true then (some (0, 0, 0, 51)) else (tenorref5_Civil.l0 k x0 1900)
def tenorref5_Civil.j2 : Nat → Int → Int → Option (Int × Int × Int × Int)
  | 0, _, _ => none
  | k + 1, x0, x4 => tenorref5_Civil.l1 k x0 x4 1
def tenorref5_Civil.l1 : Nat → Int → Int → Int → Option (Int × Int × Int × Int)
  | 0, _, _, _ => none
  | k + 1, x0, x4, x6 => (tenorref5_length.f k x4 x6).bind fun t192 => (if x0 ≥ t192 then ((tenorref5_length.f k x4 x6).bind fun t193 => (tenorref5_Civil.l1 k (wrap64 (x0 - t193)) x4 (wrap64 (x6 + 1)))) else (some (x4, x6, wrap64 (x0 + 1), 0)))
def tenorref5_Civil.l0 : Nat → Int → Int → Option (Int × Int × Int × Int)
  | 0, _, _ => none
  | k + 1, x0, x4 => (tenorref5_Leap.f x4).bind fun t191 => (if t191 = true then (if x0 < 366 then (tenorref5_Civil.j2 k x0 x4) else (tenorref5_Civil.l0 k (wrap64 (x0 - 366)) (wrap64 (x4 + 1)))) else (if x0 < 365 then (tenorref5_Civil.j2 k x0 x4) else (tenorref5_Civil.l0 k (wrap64 (x0 - 365)) (wrap64 (x4 + 1)))))
end
def tenorref5_Civil.f (k : Nat) (a0 : Int) : Option (Int × Int × Int × Int) := if a0 < 0 then (tenorref5_Civil.j0 k a0 true) else (tenorref5_Civil.j0 k a0 (decide (a0 > 109572)))
set_option maxHeartbeats 8000000 in
set_option maxRecDepth 100000 in
theorem tenorref5_Civil.calls (k : Nat) (a0 r1 r2 r3 r4 : Int) (w : World) (h : tenorref5_Civil.f k a0 = some (r1, r2, r3, r4)) :
  Calls Try.prog 96 #[.int .i64 a0] w fun e w' => e = .returned (.tuple #[.agg #[.int .i64 r1, .int .i64 r2, .int .i64 r3], .int .i64 r4]) ∧ Below w.heap.size w w' := by
 have hu115 := Try.underlying115
 have HB := Aside0.mk (Below.refl w.heap.size w)
 have H : (if a0 < 0 then (tenorref5_Civil.j0 k a0 true) else (tenorref5_Civil.j0 k a0 (decide (a0 > 109572)))) = some (r1, r2, r3, r4) := h
 clear h;have HC2 := Aside0.mk H;clear H
 go_enter Try.func96, Try.ntmps96
 go_upto_region 1 with (first | ((with_reducible refine gate_dst (N := 2) rfl ?_); refine box_event ?hg (N := 2) ?hd (cs := #[.int .i64 0, .int .i64 0, .int .i64 0]) (t := 115) ?hr ?_; (case hd => rfl); (case hg => rfl); (case hr => first | (go_simp; done) | (go_simp; rfl)); intro gb190 hg w3 hbox hb; have BK190 := Aside0.mk (hbox); have GW190 := bG hg; have GE190 := bG hg; replace HB := bS hb; clear hb hbox hg))
 (try simp only [Act.put, List.setIfInBounds_toArray, List.set_cons_zero, List.set_cons_succ])
 go_cut [12] (fun v12 wc => ∃ (kq : Nat) (x12_1 : Bool), v12 = .bool x12_1 ∧ Aside0 (tenorref5_Civil.j0 kq a0 x12_1 = some (r1, r2, r3, r4)) ∧ Aside0 (kq ≤ k) ∧ Aside0 (wc.heap[gb190]? = some (.cells #[.int .i64 0, .int .i64 0, .int .i64 0] 115 (0, 0))) ∧ Aside0 (Below w.heap.size w wc))
 case first =>
  have H := HC2.out;clear HC2
  by_cases c4 : a0 < 0
  ·
   rw [if_pos c4] at H
   have c4b0 : decide (a0 < 0) = true := decide_eq_true c4
   clear c4
   (first | rw [c4b0] | (simp only [i64_w, i32_w]; rw [c4b0]) | skip)
   have H' := Aside0.mk H;clear H
   go_wp2
   go_meet
   case rel => exact ⟨_, (true), eS, H', ⟨eN⟩, ⟨(bk BK190)⟩, ⟨bB⟩⟩
  ·
   rw [if_neg c4] at H
   have c4b0 : decide (a0 < 0) = false := decide_eq_false c4
   clear c4
   (first | rw [c4b0] | (simp only [i64_w, i32_w]; rw [c4b0]) | skip)
   have H' := Aside0.mk H;clear H
   go_wp2
   go_meet
   case rel => exact ⟨_, (decide (a0 > 109572)), eS, H', ⟨eN⟩, ⟨(bk BK190)⟩, ⟨bB⟩⟩
 case rest =>
  clear HC2
  obtain ⟨kq, x12_1, rfl, HA, HJ1, BK190, HB⟩ := hcut
  cases kq with
  | zero => exact absurd HA.out (by simp [tenorref5_Civil.j0])
  | succ kj1 =>
   have H := HA.out;clear HA
   simp only [tenorref5_Civil.j0] at H
   by_cases c5 : x12_1 = true
   ·
    subst c5
    have H1 : (some (0, 0, 0, 51)) = some (r1, r2, r3, r4) := by rw [if_pos rfl] at H; exact H
    clear H;have H := H1;clear H1
    simp only [Option.some.injEq, Prod.mk.injEq] at H
    obtain ⟨rfl, rfl, rfl, rfl⟩ := H
    obtain ⟨_,_,_,_,_,_⟩ := blk3 BK190
    go_wp2
    refine bodyPost_ret (results_ct rfl _ _ gb190 115 #[.int .i64 0, .int .i64 0, .int .i64 0] (0, 0) _ rfl (by (with_reducible repeat (first | refine blk_drewN ?_ _ | refine blk_drew ?_ | refine blk_alloc ?_ _)); refine blk_put (cs := #[.int .i64 0, .int .i64 0, .int .i64 0]) ?_ 2 _ rfl; (with_reducible repeat (first | refine blk_drewN ?_ _ | refine blk_drew ?_ | refine blk_alloc ?_ _)); refine blk_put (cs := #[.int .i64 0, .int .i64 0, .int .i64 0]) ?_ 1 _ rfl; (with_reducible repeat (first | refine blk_drewN ?_ _ | refine blk_drew ?_ | refine blk_alloc ?_ _)); refine blk_put (cs := #[.int .i64 0, .int .i64 0, .int .i64 0]) ?_ 0 _ rfl; (with_reducible repeat (first | refine blk_drewN ?_ _ | refine blk_drew ?_ | refine blk_alloc ?_ _)); exact BK190.out) Try.underlying115 rfl (by kernel_rfl)) rfl ?_
    exact ⟨eW, bB⟩
   ·
    replace c5 := Bool.eq_false_iff.mpr c5;subst c5
    have H1 : (tenorref5_Civil.l0 kj1 a0 1900) = some (r1, r2, r3, r4) := by rw [if_neg (show ¬ (false = true) by decide)] at H; exact H
    clear H;have H := H1;clear H1;have HC7 := Aside0.mk H;clear H
    go_upto_block 0 with (fail)
    go_cut [0, 4] (fun v0 v4 wc => ∃ (kq : Nat) (x0_6 : Int) (x4_6 : Int), v0 = .int .i64 x0_6 ∧ v4 = .int .i64 x4_6 ∧ Aside0 (tenorref5_Civil.j2 kq x0_6 x4_6 = some (r1, r2, r3, r4)) ∧ Aside0 (kq ≤ kj1) ∧ Aside0 (wc.heap[gb190]? = some (.cells #[.int .i64 0, .int .i64 0, .int .i64 0] 115 (0, 0))) ∧ Aside0 (Below w.heap.size w wc))
    case first =>
     have H := HC7.out;clear HC7;have H' := Aside0.mk H;clear H
     go_wp2
     go_loopg [0, 4] kj1 (fun kq v0 v4 w' => ∃ (x0_2 : Int) (x4_2 : Int), v0 = .int .i64 x0_2 ∧ v4 = .int .i64 x4_2 ∧ Aside0 (tenorref5_Civil.l0 kq x0_2 x4_2 = some (r1, r2, r3, r4)) ∧ Aside0 (kq ≤ kj1) ∧ Aside0 (w'.heap[gb190]? = some (.cells #[.int .i64 0, .int .i64 0, .int .i64 0] 115 (0, 0))) ∧ Aside0 (Below w.heap.size w w'))
     case atStart => exact ⟨(a0), (1900), eS, eS, H', ⟨Nat.le_refl _⟩, ⟨(bk BK190)⟩, ⟨bB⟩⟩
     case round =>
      clear H'
      obtain ⟨x0_2, x4_2, rfl, rfl, HA, HK2, BK190, HB⟩ := hrel
      cases gk with
      | zero => exact absurd HA.out (by simp [tenorref5_Civil.l0])
      | succ k2 =>
       have H := HA.out;clear HA
       simp only [tenorref5_Civil.l0] at H
       replace H := Option.bind_eq_some_iff.mp H
       obtain ⟨t191, A80, H⟩ := H
       replace H : (if t191 = true then (if x0_2 < 366 then (tenorref5_Civil.j2 k2 x0_2 x4_2) else (tenorref5_Civil.l0 k2 (wrap64 (x0_2 - 366)) (wrap64 (x4_2 + 1)))) else (if x0_2 < 365 then (tenorref5_Civil.j2 k2 x0_2 x4_2) else (tenorref5_Civil.l0 k2 (wrap64 (x0_2 - 365)) (wrap64 (x4_2 + 1))))) = some (r1, r2, r3, r4) := H
       have A8 := Aside0.mk A80;clear A80
       by_cases c9 : t191 = true
       ·
        subst c9
        have H1 : (if x0_2 < 366 then (tenorref5_Civil.j2 k2 x0_2 x4_2) else (tenorref5_Civil.l0 k2 (wrap64 (x0_2 - 366)) (wrap64 (x4_2 + 1)))) = some (r1, r2, r3, r4) := by rw [if_pos rfl] at H; exact H
        clear H;have H := H1;clear H1
        by_cases c10 : x0_2 < 366
        ·
         rw [if_pos c10] at H
         have c10b0 : decide (x0_2 < 366) = true := decide_eq_true c10
         clear c10
         (first | rw [c10b0] | (simp only [i64_w, i32_w]; rw [c10b0]) | skip)
         have H' := Aside0.mk H;clear H
         go_wp2_with (first | ((with_reducible refine gG 98 ?_); refine goA (some 15) Try.func98 #[.int .i64 x4_2] ?_; (with_reducible refine (tenorref5_Leap.calls x4_2 true _ A8.out).mono ?_); rintro e w' ⟨rfl, ⟨nd, rfl⟩⟩; refine ⟨_, rfl, ?_⟩))
         go_meet
         case rel => exact ⟨_, (x0_2), (x4_2), eS, eS, H', ⟨by have := HJ1.out; have := HK2.out; first | omega | exact Nat.le_refl _⟩, ⟨(bk BK190)⟩, ⟨bB⟩⟩
        ·
         rw [if_neg c10] at H
         have c10b0 : decide (x0_2 < 366) = false := decide_eq_false c10
         clear c10
         (first | rw [c10b0] | (simp only [i64_w, i32_w]; rw [c10b0]) | skip)
         have H' := Aside0.mk H;clear H
         go_wp2_with (first | ((with_reducible refine gG 98 ?_); refine goA (some 15) Try.func98 #[.int .i64 x4_2] ?_; (with_reducible refine (tenorref5_Leap.calls x4_2 true _ A8.out).mono ?_); rintro e w' ⟨rfl, ⟨nd, rfl⟩⟩; refine ⟨_, rfl, ?_⟩))
         go_roundg k2
         case measure => have := HJ1.out; have := HK2.out; omega
         case rel => exact ⟨(wrap64 (x0_2 - 366)), (wrap64 (x4_2 + 1)), eS, eS, H', ⟨by have := HJ1.out; have := HK2.out; omega⟩, ⟨(bk BK190)⟩, ⟨bB⟩⟩
       ·
        replace c9 := Bool.eq_false_iff.mpr c9;subst c9
        have H1 : (if x0_2 < 365 then (tenorref5_Civil.j2 k2 x0_2 x4_2) else (tenorref5_Civil.l0 k2 (wrap64 (x0_2 - 365)) (wrap64 (x4_2 + 1)))) = some (r1, r2, r3, r4) := by rw [if_neg (show ¬ (false = true) by decide)] at H; exact H
        clear H;have H := H1;clear H1
        by_cases c11 : x0_2 < 365
        ·
         rw [if_pos c11] at H
         have c11b0 : decide (x0_2 < 365) = true := decide_eq_true c11
         clear c11;have H' := Aside0.mk H;clear H
         go_wp2_with (first | ((with_reducible refine gG 98 ?_); refine goA (some 15) Try.func98 #[.int .i64 x4_2] ?_; (with_reducible refine (tenorref5_Leap.calls x4_2 false _ A8.out).mono ?_); rintro e w' ⟨rfl, ⟨nd, rfl⟩⟩; refine ⟨_, rfl, ?_⟩))
         go_meet
         case rel => exact ⟨_, (x0_2), (x4_2), eS, eS, H', ⟨by have := HJ1.out; have := HK2.out; first | omega | exact Nat.le_refl _⟩, ⟨(bk BK190)⟩, ⟨bB⟩⟩
        ·
         rw [if_neg c11] at H
         have c11b0 : decide (x0_2 < 365) = false := decide_eq_false c11
         clear c11;have H' := Aside0.mk H;clear H
         go_wp2_with (first | ((with_reducible refine gG 98 ?_); refine goA (some 15) Try.func98 #[.int .i64 x4_2] ?_; (with_reducible refine (tenorref5_Leap.calls x4_2 false _ A8.out).mono ?_); rintro e w' ⟨rfl, ⟨nd, rfl⟩⟩; refine ⟨_, rfl, ?_⟩))
         go_roundg k2
         case measure => have := HJ1.out; have := HK2.out; omega
         case rel => exact ⟨(wrap64 (x0_2 - 365)), (wrap64 (x4_2 + 1)), eS, eS, H', ⟨by have := HJ1.out; have := HK2.out; omega⟩, ⟨(bk BK190)⟩, ⟨bB⟩⟩
    case rest =>
     clear HC7
     obtain ⟨kq, x0_6, x4_6, rfl, rfl, HA, HJ6, BK190, HB⟩ := hcut
     cases kq with
     | zero => exact absurd HA.out (by simp [tenorref5_Civil.j2])
     | succ kj6 =>
      have H := HA.out;clear HA
      simp only [tenorref5_Civil.j2] at H
      have H' := Aside0.mk H;clear H
      go_wp2
      go_loopg [0, 6] kj6 (fun kq v0 v6 w' => ∃ (x0_3 : Int) (x6_3 : Int), v0 = .int .i64 x0_3 ∧ v6 = .int .i64 x6_3 ∧ Aside0 (tenorref5_Civil.l1 kq x0_3 x4_6 x6_3 = some (r1, r2, r3, r4)) ∧ Aside0 (kq ≤ kj6) ∧ Aside0 (w'.heap[gb190]? = some (.cells #[.int .i64 0, .int .i64 0, .int .i64 0] 115 (0, 0))) ∧ Aside0 (Below w.heap.size w w'))
      case atStart => exact ⟨(x0_6), (1), eS, eS, H', ⟨Nat.le_refl _⟩, ⟨(bk BK190)⟩, ⟨bB⟩⟩
      case round =>
       clear H'
       obtain ⟨x0_3, x6_3, rfl, rfl, HA, HK3, BK190, HB⟩ := hrel
       cases gk with
       | zero => exact absurd HA.out (by simp [tenorref5_Civil.l1])
       | succ k3 =>
        have H := HA.out;clear HA
        simp only [tenorref5_Civil.l1] at H
        replace H := Option.bind_eq_some_iff.mp H
        obtain ⟨t192, A120, H⟩ := H
        replace H : (if x0_3 ≥ t192 then ((tenorref5_length.f k3 x4_6 x6_3).bind fun t193 => (tenorref5_Civil.l1 k3 (wrap64 (x0_3 - t193)) x4_6 (wrap64 (x6_3 + 1)))) else (some (x4_6, x6_3, wrap64 (x0_3 + 1), 0))) = some (r1, r2, r3, r4) := H
        have A12 := Aside0.mk A120;clear A120
        by_cases c13 : x0_3 ≥ t192
        ·
         rw [if_pos c13] at H
         have c13b0 : decide (t192 ≤ x0_3) = true := decide_eq_true c13
         clear c13;replace H := Option.bind_eq_some_iff.mp H
         obtain ⟨t193, A140, H⟩ := H
         replace H : (tenorref5_Civil.l1 k3 (wrap64 (x0_3 - t193)) x4_6 (wrap64 (x6_3 + 1))) = some (r1, r2, r3, r4) := H
         have A14 := Aside0.mk A140;clear A140;have H' := Aside0.mk H;clear H
         go_wp2_with (first | ((with_reducible refine gG 124 ?_); refine goA (some 27) Try.func124 #[.int .i64 x4_6, .int .i64 x6_3] ?_; (with_reducible refine (tenorref5_length.calls k3 x4_6 x6_3 t192 _ A12.out).mono ?_); rintro e w' ⟨rfl, ⟨nd, rfl⟩⟩; refine ⟨_, rfl, ?_⟩) | ((with_reducible refine gG 124 ?_); refine goA (some 32) Try.func124 #[.int .i64 x4_6, .int .i64 x6_3] ?_; (with_reducible refine (tenorref5_length.calls k3 x4_6 x6_3 t193 _ A14.out).mono ?_); rintro e w' ⟨rfl, ⟨nd, rfl⟩⟩; refine ⟨_, rfl, ?_⟩))
         go_roundg k3
         case measure => have := HJ1.out; have := HJ6.out; have := HK3.out; omega
         case rel => exact ⟨(wrap64 (x0_3 - t193)), (wrap64 (x6_3 + 1)), eS, eS, H', ⟨by have := HJ1.out; have := HJ6.out; have := HK3.out; omega⟩, ⟨(bk BK190)⟩, ⟨bB⟩⟩
        ·
         rw [if_neg c13] at H
         have c13b0 : decide (t192 ≤ x0_3) = false := decide_eq_false c13
         clear c13
         simp only [Option.some.injEq, Prod.mk.injEq] at H
         obtain ⟨rfl, rfl, rfl, rfl⟩ := H
         go_wp2_with (first | ((with_reducible refine gG 124 ?_); refine goA (some 27) Try.func124 #[.int .i64 x4_6, .int .i64 x6_3] ?_; (with_reducible refine (tenorref5_length.calls k3 x4_6 x6_3 t192 _ A12.out).mono ?_); rintro e w' ⟨rfl, ⟨nd, rfl⟩⟩; refine ⟨_, rfl, ?_⟩; (try (rw [drewN_self wr]; generalize hq_ : World.drewN wr _ = wr; have n0_ : Aside0 (wr.heap[gb190]? = some (.cells #[.int .i64 0, .int .i64 0, .int .i64 0] 115 (0, 0))) := ⟨by rw [← hq_]; exact (bk BK190)⟩; have n1_ : Aside0 (Below w.heap.size w wr) := ⟨by rw [← hq_]; exact bB⟩; clear BK190 HB hq_; have BK190 := n0_; have HB := n1_; clear n0_ n1_)); obtain ⟨_,_,_,_,_,_⟩ := blk3 BK190))
         refine bodyPost_ret (results_ct rfl _ _ gb190 115 #[.int .i64 x4_6, .int .i64 x6_3, .int .i64 (wrap64 (x0_3 + 1))] (0, 0) _ rfl (by (with_reducible repeat (first | refine blk_drewN ?_ _ | refine blk_drew ?_ | refine blk_alloc ?_ _)); refine blk_put (cs := #[.int .i64 x4_6, .int .i64 x6_3, .int .i64 0]) ?_ 2 _ rfl; (with_reducible repeat (first | refine blk_drewN ?_ _ | refine blk_drew ?_ | refine blk_alloc ?_ _)); refine blk_put (cs := #[.int .i64 x4_6, .int .i64 0, .int .i64 0]) ?_ 1 _ rfl; (with_reducible repeat (first | refine blk_drewN ?_ _ | refine blk_drew ?_ | refine blk_alloc ?_ _)); refine blk_put (cs := #[.int .i64 0, .int .i64 0, .int .i64 0]) ?_ 0 _ rfl; (with_reducible repeat (first | refine blk_drewN ?_ _ | refine blk_drew ?_ | refine blk_alloc ?_ _)); exact BK190.out) Try.underlying115 rfl (by kernel_rfl)) rfl ?_
         exact ⟨eW, bB⟩
end Go.Proofs.Ytoncignjcgjhhaa.Q
