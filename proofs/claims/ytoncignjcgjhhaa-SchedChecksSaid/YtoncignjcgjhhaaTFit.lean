/- The contract of the document's own look at a rule. No condition. -/
import Derived.Test.YtoncignjcgjhhaaTQx1
import Derived.Test.YtoncignjcgjhhaaTQx16
import Derived.Test.YtoncignjcgjhhaaTGC
set_option linter.unusedVariables false
set_option linter.unusedSimpArgs false
namespace Go.Proofs.Ytoncignjcgjhhaa.H
open Go.RowKit Go.Maps Go.Proofs.YtoncignjcgjhhaaW.PrintWords Go.Proofs.YtoncignjcgjhhaaW.PrintLast Go.Proofs.YtoncignjcgjhhaaW.PrintMore
open Go.Proofs.Ytoncignjcgjhhaa.Q (S63 k63 z63 eqA63)
attribute [local go_sem high] eqA63
theorem in6_calls (a b c : Int) (r : Bool) (hr : decide (b ≤ a ∧ a ≤ c) = r) (w : World) :
  Calls Try.prog 79 #[.int .i64 a, .int .i64 b, .int .i64 c] w fun e w' => e = .returned (.bool r) ∧ Drawn0 w w' :=
 Q.tenorref6_in.calls a b c r w (by have := L.within a b c; unfold Q.cal_within.f at this; unfold Q.tenorref6_in.f; rw [this, hr])
def Fits (b : Bool) (w : World) (e : Ending) (w' : World) : Prop := e = .returned (.bool b) ∧ Below w.heap.size w w'
set_option maxHeartbeats 1000000 in
set_option maxRecDepth 100000 in
theorem fit_4 (a1 a2 a3 a4 a5 a6 a7 a8 : Int) (w : World) (b : Bool) (hb : decide (0 ≤ a2 ∧ a2 ≤ 109572) = b) (hz : a1 = 0 ∧ a3 = 0 ∧ a4 = 0 ∧ a5 = 0 ∧ a6 = 0 ∧ a7 = 0 ∧ a8 = 0) :
  Calls Try.prog 85 #[.agg #[.int .i64 4, .int .i64 a1, .int .i64 a2, .int .i64 a3, .int .i64 a4, .int .i64 a5, .int .i64 a6, .int .i64 a7, .int .i64 a8]] w (Fits b w) := by
 obtain ⟨rfl, rfl, rfl, rfl, rfl, rfl, rfl⟩ := hz
 go_enter Try.func85, Try.ntmps85
 go_wp2_with (go_at_call 79; refine (in6_calls _ _ _ _ (by assumption) _).mono ?_; rintro e w' ⟨rfl, ⟨n0, rfl⟩⟩)
 go_ret
 exact ⟨rfl, by repeat (with_reducible first | exact Below.refl _ _ | apply pw_below_drewN | apply below_drew1 | apply below_alloc | refine below_set ?_ (by simp))⟩
set_option maxHeartbeats 2000000 in
set_option maxRecDepth 100000 in
theorem fit_4n0 (a1 a2 a3 a4 a5 a6 a7 a8 : Int) (w : World) (hz : ¬ a1 = 0) : Calls Try.prog 85 #[.agg #[.int .i64 4, .int .i64 a1, .int .i64 a2, .int .i64 a3, .int .i64 a4, .int .i64 a5, .int .i64 a6, .int .i64 a7, .int .i64 a8]] w (Fits false w) := by
 have kz : (a1 == 0) = false := by simpa using hz
 clear hz
 go_enter Try.func85, Try.ntmps85
 go_wp2_with (go_at_call 79; refine (in6_calls _ _ _ _ (by assumption) _).mono ?_; rintro e w' ⟨rfl, ⟨n0, rfl⟩⟩)
 go_ret
 exact ⟨rfl, by repeat (with_reducible first | exact Below.refl _ _ | apply pw_below_drewN | apply below_drew1 | apply below_alloc | refine below_set ?_ (by simp))⟩
set_option maxHeartbeats 2000000 in
set_option maxRecDepth 100000 in
theorem fit_4n1 (a2 a3 a4 a5 a6 a7 a8 : Int) (w : World) (hz : ¬ a3 = 0) : Calls Try.prog 85 #[.agg #[.int .i64 4, .int .i64 0, .int .i64 a2, .int .i64 a3, .int .i64 a4, .int .i64 a5, .int .i64 a6, .int .i64 a7, .int .i64 a8]] w (Fits false w) := by
 have kz : (a3 == 0) = false := by simpa using hz
 clear hz
 go_enter Try.func85, Try.ntmps85
 go_wp2_with (go_at_call 79; refine (in6_calls _ _ _ _ (by assumption) _).mono ?_; rintro e w' ⟨rfl, ⟨n0, rfl⟩⟩)
 go_ret
 exact ⟨rfl, by repeat (with_reducible first | exact Below.refl _ _ | apply pw_below_drewN | apply below_drew1 | apply below_alloc | refine below_set ?_ (by simp))⟩
set_option maxHeartbeats 2000000 in
set_option maxRecDepth 100000 in
theorem fit_4n2 (a2 a4 a5 a6 a7 a8 : Int) (w : World) (hz : ¬ a4 = 0) : Calls Try.prog 85 #[.agg #[.int .i64 4, .int .i64 0, .int .i64 a2, .int .i64 0, .int .i64 a4, .int .i64 a5, .int .i64 a6, .int .i64 a7, .int .i64 a8]] w (Fits false w) := by
 have kz : (a4 == 0) = false := by simpa using hz
 clear hz
 go_enter Try.func85, Try.ntmps85
 go_wp2_with (go_at_call 79; refine (in6_calls _ _ _ _ (by assumption) _).mono ?_; rintro e w' ⟨rfl, ⟨n0, rfl⟩⟩)
 go_ret
 exact ⟨rfl, by repeat (with_reducible first | exact Below.refl _ _ | apply pw_below_drewN | apply below_drew1 | apply below_alloc | refine below_set ?_ (by simp))⟩
set_option maxHeartbeats 2000000 in
set_option maxRecDepth 100000 in
theorem fit_4n3 (a2 a5 a6 a7 a8 : Int) (w : World) (hz : ¬ a5 = 0) : Calls Try.prog 85 #[.agg #[.int .i64 4, .int .i64 0, .int .i64 a2, .int .i64 0, .int .i64 0, .int .i64 a5, .int .i64 a6, .int .i64 a7, .int .i64 a8]] w (Fits false w) := by
 have kz : (a5 == 0) = false := by simpa using hz
 clear hz
 go_enter Try.func85, Try.ntmps85
 go_wp2_with (go_at_call 79; refine (in6_calls _ _ _ _ (by assumption) _).mono ?_; rintro e w' ⟨rfl, ⟨n0, rfl⟩⟩)
 go_ret
 exact ⟨rfl, by repeat (with_reducible first | exact Below.refl _ _ | apply pw_below_drewN | apply below_drew1 | apply below_alloc | refine below_set ?_ (by simp))⟩
set_option maxHeartbeats 2000000 in
set_option maxRecDepth 100000 in
theorem fit_4n4 (a2 a6 a7 a8 : Int) (w : World) (hz : ¬ a6 = 0) : Calls Try.prog 85 #[.agg #[.int .i64 4, .int .i64 0, .int .i64 a2, .int .i64 0, .int .i64 0, .int .i64 0, .int .i64 a6, .int .i64 a7, .int .i64 a8]] w (Fits false w) := by
 have kz : (a6 == 0) = false := by simpa using hz
 clear hz
 go_enter Try.func85, Try.ntmps85
 go_wp2_with (go_at_call 79; refine (in6_calls _ _ _ _ (by assumption) _).mono ?_; rintro e w' ⟨rfl, ⟨n0, rfl⟩⟩)
 go_ret
 exact ⟨rfl, by repeat (with_reducible first | exact Below.refl _ _ | apply pw_below_drewN | apply below_drew1 | apply below_alloc | refine below_set ?_ (by simp))⟩
set_option maxHeartbeats 2000000 in
set_option maxRecDepth 100000 in
theorem fit_4n5 (a2 a7 a8 : Int) (w : World) (hz : ¬ a7 = 0) : Calls Try.prog 85 #[.agg #[.int .i64 4, .int .i64 0, .int .i64 a2, .int .i64 0, .int .i64 0, .int .i64 0, .int .i64 0, .int .i64 a7, .int .i64 a8]] w (Fits false w) := by
 have kz : (a7 == 0) = false := by simpa using hz
 clear hz
 go_enter Try.func85, Try.ntmps85
 go_wp2_with (go_at_call 79; refine (in6_calls _ _ _ _ (by assumption) _).mono ?_; rintro e w' ⟨rfl, ⟨n0, rfl⟩⟩)
 go_ret
 exact ⟨rfl, by repeat (with_reducible first | exact Below.refl _ _ | apply pw_below_drewN | apply below_drew1 | apply below_alloc | refine below_set ?_ (by simp))⟩
set_option maxHeartbeats 2000000 in
set_option maxRecDepth 100000 in
theorem fit_4n6 (a2 a8 : Int) (w : World) (hz : ¬ a8 = 0) : Calls Try.prog 85 #[.agg #[.int .i64 4, .int .i64 0, .int .i64 a2, .int .i64 0, .int .i64 0, .int .i64 0, .int .i64 0, .int .i64 0, .int .i64 a8]] w (Fits false w) := by
 have kz : (a8 == 0) = false := by simpa using hz
 clear hz
 go_enter Try.func85, Try.ntmps85
 go_wp2_with (go_at_call 79; refine (in6_calls _ _ _ _ (by assumption) _).mono ?_; rintro e w' ⟨rfl, ⟨n0, rfl⟩⟩)
 go_ret
 exact ⟨rfl, by repeat (with_reducible first | exact Below.refl _ _ | apply pw_below_drewN | apply below_drew1 | apply below_alloc | refine below_set ?_ (by simp))⟩
set_option maxHeartbeats 1000000 in
set_option maxRecDepth 100000 in
theorem fit_y (a0 : Int) (a1 a2 a3 a4 a5 a6 a7 a8 : Int) (w : World) (h4 : ¬ a0 = 4) (h : ¬ (1900 ≤ a6 ∧ a6 ≤ 2199 ∧ a6 ≤ a7 ∧ a7 ≤ 2199 ∧ 0 ≤ a8 ∧ a8 ≤ 2)) :
  Calls Try.prog 85 #[.agg #[.int .i64 a0, .int .i64 a1, .int .i64 a2, .int .i64 a3, .int .i64 a4, .int .i64 a5, .int .i64 a6, .int .i64 a7, .int .i64 a8]] w (Fits false w) := by
 have g4 : (a0 == 4) = false := by simpa using h4
 by_cases h6 : 1900 ≤ a6 ∧ a6 ≤ 2199
 ·
  have g6 := decide_eq_true h6
  by_cases h7 : a6 ≤ a7 ∧ a7 ≤ 2199
  ·
   have g7 := decide_eq_true h7
   have g8 : decide (0 ≤ a8 ∧ a8 ≤ 2) = false := decide_eq_false (by omega)
   clear h6 h7 h h4
   go_enter Try.func85, Try.ntmps85
   go_wp2_with (go_at_call 79; refine (in6_calls _ _ _ _ (by assumption) _).mono ?_; rintro e w' ⟨rfl, ⟨n0, rfl⟩⟩)
   go_ret
   exact ⟨rfl, by repeat (with_reducible first | exact Below.refl _ _ | apply pw_below_drewN | apply below_drew1 | apply below_alloc | refine below_set ?_ (by simp))⟩
  ·
   have g7 := decide_eq_false h7;clear h6 h7 h h4
   go_enter Try.func85, Try.ntmps85
   go_wp2_with (go_at_call 79; refine (in6_calls _ _ _ _ (by assumption) _).mono ?_; rintro e w' ⟨rfl, ⟨n0, rfl⟩⟩)
   go_ret
   exact ⟨rfl, by repeat (with_reducible first | exact Below.refl _ _ | apply pw_below_drewN | apply below_drew1 | apply below_alloc | refine below_set ?_ (by simp))⟩
 ·
  have g6 := decide_eq_false h6;clear h6 h h4
  go_enter Try.func85, Try.ntmps85
  go_wp2_with (go_at_call 79; refine (in6_calls _ _ _ _ (by assumption) _).mono ?_; rintro e w' ⟨rfl, ⟨n0, rfl⟩⟩)
  go_ret
  exact ⟨rfl, by repeat (with_reducible first | exact Below.refl _ _ | apply pw_below_drewN | apply below_drew1 | apply below_alloc | refine below_set ?_ (by simp))⟩
set_option maxHeartbeats 1000000 in
set_option maxRecDepth 100000 in
theorem fit_0 (a0 : Int) (a1 a2 a3 a4 a5 a6 a7 a8 : Int) (w : World) (g6 : decide (1900 ≤ a6 ∧ a6 ≤ 2199) = true) (g7 : decide (a6 ≤ a7 ∧ a7 ≤ 2199) = true) (g8 : decide (0 ≤ a8 ∧ a8 ≤ 2) = true) (h1 : ¬ a0 = 1) (h2 : ¬ a0 = 2) (h3 : ¬ a0 = 3) (h4 : ¬ a0 = 4) :
  Calls Try.prog 85 #[.agg #[.int .i64 a0, .int .i64 a1, .int .i64 a2, .int .i64 a3, .int .i64 a4, .int .i64 a5, .int .i64 a6, .int .i64 a7, .int .i64 a8]] w (Fits false w) := by
 have k1 : (a0 == 1) = false := by simpa using h1
 have k2 : (a0 == 2) = false := by simpa using h2
 have k3 : (a0 == 3) = false := by simpa using h3
 have k4 : (a0 == 4) = false := by simpa using h4
 clear h1 h2 h3 h4
 go_enter Try.func85, Try.ntmps85
 go_wp2_with (go_at_call 79; refine (in6_calls _ _ _ _ (by assumption) _).mono ?_; rintro e w' ⟨rfl, ⟨n0, rfl⟩⟩)
 go_ret
 exact ⟨rfl, by repeat (with_reducible first | exact Below.refl _ _ | apply pw_below_drewN | apply below_drew1 | apply below_alloc | refine below_set ?_ (by simp))⟩
set_option maxHeartbeats 2000000 in
set_option maxRecDepth 100000 in
theorem fit_2n0 (a1 a2 a3 a4 a5 a6 a7 a8 : Int) (w : World) (g6 : decide (1900 ≤ a6 ∧ a6 ≤ 2199) = true) (g7 : decide (a6 ≤ a7 ∧ a7 ≤ 2199) = true) (g8 : decide (0 ≤ a8 ∧ a8 ≤ 2) = true) (hz : ¬ a2 = 0) : Calls Try.prog 85 #[.agg #[.int .i64 2, .int .i64 a1, .int .i64 a2, .int .i64 a3, .int .i64 a4, .int .i64 a5, .int .i64 a6, .int .i64 a7, .int .i64 a8]] w (Fits false w) := by
 have kz : (a2 == 0) = false := by simpa using hz
 clear hz
 go_enter Try.func85, Try.ntmps85
 go_wp2_with (go_at_call 79; refine (in6_calls _ _ _ _ (by assumption) _).mono ?_; rintro e w' ⟨rfl, ⟨n0, rfl⟩⟩)
 go_ret
 exact ⟨rfl, by repeat (with_reducible first | exact Below.refl _ _ | apply pw_below_drewN | apply below_drew1 | apply below_alloc | refine below_set ?_ (by simp))⟩
set_option maxHeartbeats 2000000 in
set_option maxRecDepth 100000 in
theorem fit_2n1 (a1 a3 a4 a5 a6 a7 a8 : Int) (w : World) (g6 : decide (1900 ≤ a6 ∧ a6 ≤ 2199) = true) (g7 : decide (a6 ≤ a7 ∧ a7 ≤ 2199) = true) (g8 : decide (0 ≤ a8 ∧ a8 ≤ 2) = true) (hz : ¬ a5 = 0) : Calls Try.prog 85 #[.agg #[.int .i64 2, .int .i64 a1, .int .i64 0, .int .i64 a3, .int .i64 a4, .int .i64 a5, .int .i64 a6, .int .i64 a7, .int .i64 a8]] w (Fits false w) := by
 have kz : (a5 == 0) = false := by simpa using hz
 clear hz
 go_enter Try.func85, Try.ntmps85
 go_wp2_with (go_at_call 79; refine (in6_calls _ _ _ _ (by assumption) _).mono ?_; rintro e w' ⟨rfl, ⟨n0, rfl⟩⟩)
 go_ret
 exact ⟨rfl, by repeat (with_reducible first | exact Below.refl _ _ | apply pw_below_drewN | apply below_drew1 | apply below_alloc | refine below_set ?_ (by simp))⟩
set_option maxHeartbeats 2000000 in
set_option maxRecDepth 100000 in
theorem fit_2c0 (a1 a3 a4 a6 a7 a8 : Int) (w : World) (g6 : decide (1900 ≤ a6 ∧ a6 ≤ 2199) = true) (g7 : decide (a6 ≤ a7 ∧ a7 ≤ 2199) = true) (g8 : decide (0 ≤ a8 ∧ a8 ≤ 2) = true)  (c0 : decide (1 ≤ a1 ∧ a1 ≤ 12) = false) : Calls Try.prog 85 #[.agg #[.int .i64 2, .int .i64 a1, .int .i64 0, .int .i64 a3, .int .i64 a4, .int .i64 0, .int .i64 a6, .int .i64 a7, .int .i64 a8]] w (Fits false w) := by
 go_enter Try.func85, Try.ntmps85
 go_wp2_with (go_at_call 79; refine (in6_calls _ _ _ _ (by assumption) _).mono ?_; rintro e w' ⟨rfl, ⟨n0, rfl⟩⟩)
 go_ret
 exact ⟨rfl, by repeat (with_reducible first | exact Below.refl _ _ | apply pw_below_drewN | apply below_drew1 | apply below_alloc | refine below_set ?_ (by simp))⟩
set_option maxHeartbeats 2000000 in
set_option maxRecDepth 100000 in
theorem fit_2c1 (a1 a3 a4 a6 a7 a8 : Int) (w : World) (g6 : decide (1900 ≤ a6 ∧ a6 ≤ 2199) = true) (g7 : decide (a6 ≤ a7 ∧ a7 ≤ 2199) = true) (g8 : decide (0 ≤ a8 ∧ a8 ≤ 2) = true) (c0 : decide (1 ≤ a1 ∧ a1 ≤ 12) = true) (c1 : decide (0 ≤ a4 ∧ a4 ≤ 6) = false) : Calls Try.prog 85 #[.agg #[.int .i64 2, .int .i64 a1, .int .i64 0, .int .i64 a3, .int .i64 a4, .int .i64 0, .int .i64 a6, .int .i64 a7, .int .i64 a8]] w (Fits false w) := by
 go_enter Try.func85, Try.ntmps85
 go_wp2_with (go_at_call 79; refine (in6_calls _ _ _ _ (by assumption) _).mono ?_; rintro e w' ⟨rfl, ⟨n0, rfl⟩⟩)
 go_ret
 exact ⟨rfl, by repeat (with_reducible first | exact Below.refl _ _ | apply pw_below_drewN | apply below_drew1 | apply below_alloc | refine below_set ?_ (by simp))⟩
set_option maxHeartbeats 2000000 in
set_option maxRecDepth 100000 in
theorem fit_2c2 (a1 a3 a4 a6 a7 a8 : Int) (w : World) (g6 : decide (1900 ≤ a6 ∧ a6 ≤ 2199) = true) (g7 : decide (a6 ≤ a7 ∧ a7 ≤ 2199) = true) (g8 : decide (0 ≤ a8 ∧ a8 ≤ 2) = true) (c0 : decide (1 ≤ a1 ∧ a1 ≤ 12) = true) (c1 : decide (0 ≤ a4 ∧ a4 ≤ 6) = true) (c2 : decide (1 ≤ a3 ∧ a3 ≤ 5) = false) : Calls Try.prog 85 #[.agg #[.int .i64 2, .int .i64 a1, .int .i64 0, .int .i64 a3, .int .i64 a4, .int .i64 0, .int .i64 a6, .int .i64 a7, .int .i64 a8]] w (Fits false w) := by
 go_enter Try.func85, Try.ntmps85
 go_wp2_with (go_at_call 79; refine (in6_calls _ _ _ _ (by assumption) _).mono ?_; rintro e w' ⟨rfl, ⟨n0, rfl⟩⟩)
 go_ret
 exact ⟨rfl, by repeat (with_reducible first | exact Below.refl _ _ | apply pw_below_drewN | apply below_drew1 | apply below_alloc | refine below_set ?_ (by simp))⟩
set_option maxHeartbeats 2000000 in
set_option maxRecDepth 100000 in
theorem fit_2c3 (a1 a3 a4 a6 a7 a8 : Int) (w : World) (g6 : decide (1900 ≤ a6 ∧ a6 ≤ 2199) = true) (g7 : decide (a6 ≤ a7 ∧ a7 ≤ 2199) = true) (g8 : decide (0 ≤ a8 ∧ a8 ≤ 2) = true) (c0 : decide (1 ≤ a1 ∧ a1 ≤ 12) = true) (c1 : decide (0 ≤ a4 ∧ a4 ≤ 6) = true) (c2 : decide (1 ≤ a3 ∧ a3 ≤ 5) = true) : Calls Try.prog 85 #[.agg #[.int .i64 2, .int .i64 a1, .int .i64 0, .int .i64 a3, .int .i64 a4, .int .i64 0, .int .i64 a6, .int .i64 a7, .int .i64 a8]] w (Fits true w) := by
 go_enter Try.func85, Try.ntmps85
 go_wp2_with (go_at_call 79; refine (in6_calls _ _ _ _ (by assumption) _).mono ?_; rintro e w' ⟨rfl, ⟨n0, rfl⟩⟩)
 go_ret
 exact ⟨rfl, by repeat (with_reducible first | exact Below.refl _ _ | apply pw_below_drewN | apply below_drew1 | apply below_alloc | refine below_set ?_ (by simp))⟩
set_option maxHeartbeats 2000000 in
set_option maxRecDepth 100000 in
theorem fit_3n0 (a1 a2 a3 a4 a5 a6 a7 a8 : Int) (w : World) (g6 : decide (1900 ≤ a6 ∧ a6 ≤ 2199) = true) (g7 : decide (a6 ≤ a7 ∧ a7 ≤ 2199) = true) (g8 : decide (0 ≤ a8 ∧ a8 ≤ 2) = true) (hz : ¬ a1 = 0) : Calls Try.prog 85 #[.agg #[.int .i64 3, .int .i64 a1, .int .i64 a2, .int .i64 a3, .int .i64 a4, .int .i64 a5, .int .i64 a6, .int .i64 a7, .int .i64 a8]] w (Fits false w) := by
 have kz : (a1 == 0) = false := by simpa using hz
 clear hz
 go_enter Try.func85, Try.ntmps85
 go_wp2_with (go_at_call 79; refine (in6_calls _ _ _ _ (by assumption) _).mono ?_; rintro e w' ⟨rfl, ⟨n0, rfl⟩⟩)
 go_ret
 exact ⟨rfl, by repeat (with_reducible first | exact Below.refl _ _ | apply pw_below_drewN | apply below_drew1 | apply below_alloc | refine below_set ?_ (by simp))⟩
set_option maxHeartbeats 2000000 in
set_option maxRecDepth 100000 in
theorem fit_3n1 (a2 a3 a4 a5 a6 a7 a8 : Int) (w : World) (g6 : decide (1900 ≤ a6 ∧ a6 ≤ 2199) = true) (g7 : decide (a6 ≤ a7 ∧ a7 ≤ 2199) = true) (g8 : decide (0 ≤ a8 ∧ a8 ≤ 2) = true) (hz : ¬ a2 = 0) : Calls Try.prog 85 #[.agg #[.int .i64 3, .int .i64 0, .int .i64 a2, .int .i64 a3, .int .i64 a4, .int .i64 a5, .int .i64 a6, .int .i64 a7, .int .i64 a8]] w (Fits false w) := by
 have kz : (a2 == 0) = false := by simpa using hz
 clear hz
 go_enter Try.func85, Try.ntmps85
 go_wp2_with (go_at_call 79; refine (in6_calls _ _ _ _ (by assumption) _).mono ?_; rintro e w' ⟨rfl, ⟨n0, rfl⟩⟩)
 go_ret
 exact ⟨rfl, by repeat (with_reducible first | exact Below.refl _ _ | apply pw_below_drewN | apply below_drew1 | apply below_alloc | refine below_set ?_ (by simp))⟩
set_option maxHeartbeats 2000000 in
set_option maxRecDepth 100000 in
theorem fit_3n2 (a3 a4 a5 a6 a7 a8 : Int) (w : World) (g6 : decide (1900 ≤ a6 ∧ a6 ≤ 2199) = true) (g7 : decide (a6 ≤ a7 ∧ a7 ≤ 2199) = true) (g8 : decide (0 ≤ a8 ∧ a8 ≤ 2) = true) (hz : ¬ a3 = 0) : Calls Try.prog 85 #[.agg #[.int .i64 3, .int .i64 0, .int .i64 0, .int .i64 a3, .int .i64 a4, .int .i64 a5, .int .i64 a6, .int .i64 a7, .int .i64 a8]] w (Fits false w) := by
 have kz : (a3 == 0) = false := by simpa using hz
 clear hz
 go_enter Try.func85, Try.ntmps85
 go_wp2_with (go_at_call 79; refine (in6_calls _ _ _ _ (by assumption) _).mono ?_; rintro e w' ⟨rfl, ⟨n0, rfl⟩⟩)
 go_ret
 exact ⟨rfl, by repeat (with_reducible first | exact Below.refl _ _ | apply pw_below_drewN | apply below_drew1 | apply below_alloc | refine below_set ?_ (by simp))⟩
set_option maxHeartbeats 2000000 in
set_option maxRecDepth 100000 in
theorem fit_3n3 (a4 a5 a6 a7 a8 : Int) (w : World) (g6 : decide (1900 ≤ a6 ∧ a6 ≤ 2199) = true) (g7 : decide (a6 ≤ a7 ∧ a7 ≤ 2199) = true) (g8 : decide (0 ≤ a8 ∧ a8 ≤ 2) = true) (hz : ¬ a4 = 0) : Calls Try.prog 85 #[.agg #[.int .i64 3, .int .i64 0, .int .i64 0, .int .i64 0, .int .i64 a4, .int .i64 a5, .int .i64 a6, .int .i64 a7, .int .i64 a8]] w (Fits false w) := by
 have kz : (a4 == 0) = false := by simpa using hz
 clear hz
 go_enter Try.func85, Try.ntmps85
 go_wp2_with (go_at_call 79; refine (in6_calls _ _ _ _ (by assumption) _).mono ?_; rintro e w' ⟨rfl, ⟨n0, rfl⟩⟩)
 go_ret
 exact ⟨rfl, by repeat (with_reducible first | exact Below.refl _ _ | apply pw_below_drewN | apply below_drew1 | apply below_alloc | refine below_set ?_ (by simp))⟩
set_option maxHeartbeats 2000000 in
set_option maxRecDepth 100000 in
theorem fit_3c0 (a5 a6 a7 a8 : Int) (w : World) (g6 : decide (1900 ≤ a6 ∧ a6 ≤ 2199) = true) (g7 : decide (a6 ≤ a7 ∧ a7 ≤ 2199) = true) (g8 : decide (0 ≤ a8 ∧ a8 ≤ 2) = true)  (c0 : decide (-100 ≤ a5 ∧ a5 ≤ 100) = false) : Calls Try.prog 85 #[.agg #[.int .i64 3, .int .i64 0, .int .i64 0, .int .i64 0, .int .i64 0, .int .i64 a5, .int .i64 a6, .int .i64 a7, .int .i64 a8]] w (Fits false w) := by
 go_enter Try.func85, Try.ntmps85
 go_wp2_with (go_at_call 79; refine (in6_calls _ _ _ _ (by assumption) _).mono ?_; rintro e w' ⟨rfl, ⟨n0, rfl⟩⟩)
 go_ret
 exact ⟨rfl, by repeat (with_reducible first | exact Below.refl _ _ | apply pw_below_drewN | apply below_drew1 | apply below_alloc | refine below_set ?_ (by simp))⟩
set_option maxHeartbeats 2000000 in
set_option maxRecDepth 100000 in
theorem fit_3c1 (a5 a6 a7 a8 : Int) (w : World) (g6 : decide (1900 ≤ a6 ∧ a6 ≤ 2199) = true) (g7 : decide (a6 ≤ a7 ∧ a7 ≤ 2199) = true) (g8 : decide (0 ≤ a8 ∧ a8 ≤ 2) = true) (c0 : decide (-100 ≤ a5 ∧ a5 ≤ 100) = true) : Calls Try.prog 85 #[.agg #[.int .i64 3, .int .i64 0, .int .i64 0, .int .i64 0, .int .i64 0, .int .i64 a5, .int .i64 a6, .int .i64 a7, .int .i64 a8]] w (Fits true w) := by
 go_enter Try.func85, Try.ntmps85
 go_wp2_with (go_at_call 79; refine (in6_calls _ _ _ _ (by assumption) _).mono ?_; rintro e w' ⟨rfl, ⟨n0, rfl⟩⟩)
 go_ret
 exact ⟨rfl, by repeat (with_reducible first | exact Below.refl _ _ | apply pw_below_drewN | apply below_drew1 | apply below_alloc | refine below_set ?_ (by simp))⟩
set_option maxHeartbeats 2000000 in
set_option maxRecDepth 100000 in
theorem fit_1n0 (a1 a2 a3 a4 a5 a6 a7 a8 : Int) (w : World) (g6 : decide (1900 ≤ a6 ∧ a6 ≤ 2199) = true) (g7 : decide (a6 ≤ a7 ∧ a7 ≤ 2199) = true) (g8 : decide (0 ≤ a8 ∧ a8 ≤ 2) = true) (hz : ¬ a3 = 0) : Calls Try.prog 85 #[.agg #[.int .i64 1, .int .i64 a1, .int .i64 a2, .int .i64 a3, .int .i64 a4, .int .i64 a5, .int .i64 a6, .int .i64 a7, .int .i64 a8]] w (Fits false w) := by
 have kz : (a3 == 0) = false := by simpa using hz
 clear hz
 go_enter Try.func85, Try.ntmps85
 go_wp2_with (go_at_call 79; refine (in6_calls _ _ _ _ (by assumption) _).mono ?_; rintro e w' ⟨rfl, ⟨n0, rfl⟩⟩)
 go_quiet ((go_at_call 79; exact Calls.quiet_of ((in6_calls _ _ _ _ (by assumption) _).mono fun _ _ h => ⟨h.1, h.2.out⟩)))
 go_wp2_with fail
 go_ret
 exact ⟨rfl, by repeat (with_reducible first | exact Below.refl _ _ | apply pw_below_drewN | apply below_drew1 | apply below_alloc | refine below_set ?_ (by simp))⟩
set_option maxHeartbeats 2000000 in
set_option maxRecDepth 100000 in
theorem fit_1n1 (a1 a2 a4 a5 a6 a7 a8 : Int) (w : World) (g6 : decide (1900 ≤ a6 ∧ a6 ≤ 2199) = true) (g7 : decide (a6 ≤ a7 ∧ a7 ≤ 2199) = true) (g8 : decide (0 ≤ a8 ∧ a8 ≤ 2) = true) (hz : ¬ a4 = 0) : Calls Try.prog 85 #[.agg #[.int .i64 1, .int .i64 a1, .int .i64 a2, .int .i64 0, .int .i64 a4, .int .i64 a5, .int .i64 a6, .int .i64 a7, .int .i64 a8]] w (Fits false w) := by
 have kz : (a4 == 0) = false := by simpa using hz
 clear hz
 go_enter Try.func85, Try.ntmps85
 go_wp2_with (go_at_call 79; refine (in6_calls _ _ _ _ (by assumption) _).mono ?_; rintro e w' ⟨rfl, ⟨n0, rfl⟩⟩)
 go_quiet ((go_at_call 79; exact Calls.quiet_of ((in6_calls _ _ _ _ (by assumption) _).mono fun _ _ h => ⟨h.1, h.2.out⟩)))
 go_wp2_with fail
 go_ret
 exact ⟨rfl, by repeat (with_reducible first | exact Below.refl _ _ | apply pw_below_drewN | apply below_drew1 | apply below_alloc | refine below_set ?_ (by simp))⟩
set_option maxHeartbeats 2000000 in
set_option maxRecDepth 100000 in
theorem fit_1n2 (a1 a2 a5 a6 a7 a8 : Int) (w : World) (g6 : decide (1900 ≤ a6 ∧ a6 ≤ 2199) = true) (g7 : decide (a6 ≤ a7 ∧ a7 ≤ 2199) = true) (g8 : decide (0 ≤ a8 ∧ a8 ≤ 2) = true) (hz : ¬ a5 = 0) : Calls Try.prog 85 #[.agg #[.int .i64 1, .int .i64 a1, .int .i64 a2, .int .i64 0, .int .i64 0, .int .i64 a5, .int .i64 a6, .int .i64 a7, .int .i64 a8]] w (Fits false w) := by
 have kz : (a5 == 0) = false := by simpa using hz
 clear hz
 go_enter Try.func85, Try.ntmps85
 go_wp2_with (go_at_call 79; refine (in6_calls _ _ _ _ (by assumption) _).mono ?_; rintro e w' ⟨rfl, ⟨n0, rfl⟩⟩)
 go_quiet ((go_at_call 79; exact Calls.quiet_of ((in6_calls _ _ _ _ (by assumption) _).mono fun _ _ h => ⟨h.1, h.2.out⟩)))
 go_wp2_with fail
 go_ret
 exact ⟨rfl, by repeat (with_reducible first | exact Below.refl _ _ | apply pw_below_drewN | apply below_drew1 | apply below_alloc | refine below_set ?_ (by simp))⟩
set_option maxHeartbeats 2000000 in
set_option maxRecDepth 100000 in
theorem fit_1c0 (a1 a2 a6 a7 a8 : Int) (w : World) (g6 : decide (1900 ≤ a6 ∧ a6 ≤ 2199) = true) (g7 : decide (a6 ≤ a7 ∧ a7 ≤ 2199) = true) (g8 : decide (0 ≤ a8 ∧ a8 ≤ 2) = true) (c0 : decide (1 ≤ a1 ∧ a1 ≤ 12) = false) : Calls Try.prog 85 #[.agg #[.int .i64 1, .int .i64 a1, .int .i64 a2, .int .i64 0, .int .i64 0, .int .i64 0, .int .i64 a6, .int .i64 a7, .int .i64 a8]] w (Fits false w) := by
 go_enter Try.func85, Try.ntmps85
 go_wp2_with (go_at_call 79; refine (in6_calls _ _ _ _ (by assumption) _).mono ?_; rintro e w' ⟨rfl, ⟨n0, rfl⟩⟩)
 go_quiet ((go_at_call 79; exact Calls.quiet_of ((in6_calls _ _ _ _ (by assumption) _).mono fun _ _ h => ⟨h.1, h.2.out⟩)))
 go_wp2_with fail
 go_ret
 exact ⟨rfl, by repeat (with_reducible first | exact Below.refl _ _ | apply pw_below_drewN | apply below_drew1 | apply below_alloc | refine below_set ?_ (by simp))⟩
set_option maxHeartbeats 2000000 in
set_option maxRecDepth 100000 in
theorem fit_1m1 (a2 a6 a7 a8 : Int) (w : World) (g6 : decide (1900 ≤ a6 ∧ a6 ≤ 2199) = true) (g7 : decide (a6 ≤ a7 ∧ a7 ≤ 2199) = true) (g8 : decide (0 ≤ a8 ∧ a8 ≤ 2) = true) (b : Bool) (c1 : decide (1 ≤ a2 ∧ a2 ≤ 31) = b) : Calls Try.prog 85 #[.agg #[.int .i64 1, .int .i64 1, .int .i64 a2, .int .i64 0, .int .i64 0, .int .i64 0, .int .i64 a6, .int .i64 a7, .int .i64 a8]] w (Fits b w) := by
 have c0 : decide ((1 : Int) ≤ 1 ∧ (1 : Int) ≤ 12) = true := by decide
 go_enter Try.func85, Try.ntmps85
 go_wp2_with (go_at_call 79; refine (in6_calls _ _ _ _ (by assumption) _).mono ?_; rintro e w' ⟨rfl, ⟨n0, rfl⟩⟩)
 go_quiet ((go_at_call 79; exact Calls.quiet_of ((in6_calls _ _ _ _ (by assumption) _).mono fun _ _ h => ⟨h.1, h.2.out⟩)))
 go_wp2_with fail
 go_ret
 exact ⟨rfl, by repeat (with_reducible first | exact Below.refl _ _ | apply pw_below_drewN | apply below_drew1 | apply below_alloc | refine below_set ?_ (by simp))⟩
set_option maxHeartbeats 2000000 in
set_option maxRecDepth 100000 in
theorem fit_1m2 (a2 a6 a7 a8 : Int) (w : World) (g6 : decide (1900 ≤ a6 ∧ a6 ≤ 2199) = true) (g7 : decide (a6 ≤ a7 ∧ a7 ≤ 2199) = true) (g8 : decide (0 ≤ a8 ∧ a8 ≤ 2) = true) (b : Bool) (c1 : decide (1 ≤ a2 ∧ a2 ≤ 29) = b) : Calls Try.prog 85 #[.agg #[.int .i64 1, .int .i64 2, .int .i64 a2, .int .i64 0, .int .i64 0, .int .i64 0, .int .i64 a6, .int .i64 a7, .int .i64 a8]] w (Fits b w) := by
 have c0 : decide ((1 : Int) ≤ 2 ∧ (2 : Int) ≤ 12) = true := by decide
 go_enter Try.func85, Try.ntmps85
 go_wp2_with (go_at_call 79; refine (in6_calls _ _ _ _ (by assumption) _).mono ?_; rintro e w' ⟨rfl, ⟨n0, rfl⟩⟩)
 go_quiet ((go_at_call 79; exact Calls.quiet_of ((in6_calls _ _ _ _ (by assumption) _).mono fun _ _ h => ⟨h.1, h.2.out⟩)))
 go_wp2_with fail
 go_ret
 exact ⟨rfl, by repeat (with_reducible first | exact Below.refl _ _ | apply pw_below_drewN | apply below_drew1 | apply below_alloc | refine below_set ?_ (by simp))⟩
set_option maxHeartbeats 2000000 in
set_option maxRecDepth 100000 in
theorem fit_1m3 (a2 a6 a7 a8 : Int) (w : World) (g6 : decide (1900 ≤ a6 ∧ a6 ≤ 2199) = true) (g7 : decide (a6 ≤ a7 ∧ a7 ≤ 2199) = true) (g8 : decide (0 ≤ a8 ∧ a8 ≤ 2) = true) (b : Bool) (c1 : decide (1 ≤ a2 ∧ a2 ≤ 31) = b) : Calls Try.prog 85 #[.agg #[.int .i64 1, .int .i64 3, .int .i64 a2, .int .i64 0, .int .i64 0, .int .i64 0, .int .i64 a6, .int .i64 a7, .int .i64 a8]] w (Fits b w) := by
 have c0 : decide ((1 : Int) ≤ 3 ∧ (3 : Int) ≤ 12) = true := by decide
 go_enter Try.func85, Try.ntmps85
 go_wp2_with (go_at_call 79; refine (in6_calls _ _ _ _ (by assumption) _).mono ?_; rintro e w' ⟨rfl, ⟨n0, rfl⟩⟩)
 go_quiet ((go_at_call 79; exact Calls.quiet_of ((in6_calls _ _ _ _ (by assumption) _).mono fun _ _ h => ⟨h.1, h.2.out⟩)))
 go_wp2_with fail
 go_ret
 exact ⟨rfl, by repeat (with_reducible first | exact Below.refl _ _ | apply pw_below_drewN | apply below_drew1 | apply below_alloc | refine below_set ?_ (by simp))⟩
set_option maxHeartbeats 2000000 in
set_option maxRecDepth 100000 in
theorem fit_1m4 (a2 a6 a7 a8 : Int) (w : World) (g6 : decide (1900 ≤ a6 ∧ a6 ≤ 2199) = true) (g7 : decide (a6 ≤ a7 ∧ a7 ≤ 2199) = true) (g8 : decide (0 ≤ a8 ∧ a8 ≤ 2) = true) (b : Bool) (c1 : decide (1 ≤ a2 ∧ a2 ≤ 30) = b) : Calls Try.prog 85 #[.agg #[.int .i64 1, .int .i64 4, .int .i64 a2, .int .i64 0, .int .i64 0, .int .i64 0, .int .i64 a6, .int .i64 a7, .int .i64 a8]] w (Fits b w) := by
 have c0 : decide ((1 : Int) ≤ 4 ∧ (4 : Int) ≤ 12) = true := by decide
 go_enter Try.func85, Try.ntmps85
 go_wp2_with (go_at_call 79; refine (in6_calls _ _ _ _ (by assumption) _).mono ?_; rintro e w' ⟨rfl, ⟨n0, rfl⟩⟩)
 go_quiet ((go_at_call 79; exact Calls.quiet_of ((in6_calls _ _ _ _ (by assumption) _).mono fun _ _ h => ⟨h.1, h.2.out⟩)))
 go_wp2_with fail
 go_ret
 exact ⟨rfl, by repeat (with_reducible first | exact Below.refl _ _ | apply pw_below_drewN | apply below_drew1 | apply below_alloc | refine below_set ?_ (by simp))⟩
set_option maxHeartbeats 2000000 in
set_option maxRecDepth 100000 in
theorem fit_1m5 (a2 a6 a7 a8 : Int) (w : World) (g6 : decide (1900 ≤ a6 ∧ a6 ≤ 2199) = true) (g7 : decide (a6 ≤ a7 ∧ a7 ≤ 2199) = true) (g8 : decide (0 ≤ a8 ∧ a8 ≤ 2) = true) (b : Bool) (c1 : decide (1 ≤ a2 ∧ a2 ≤ 31) = b) : Calls Try.prog 85 #[.agg #[.int .i64 1, .int .i64 5, .int .i64 a2, .int .i64 0, .int .i64 0, .int .i64 0, .int .i64 a6, .int .i64 a7, .int .i64 a8]] w (Fits b w) := by
 have c0 : decide ((1 : Int) ≤ 5 ∧ (5 : Int) ≤ 12) = true := by decide
 go_enter Try.func85, Try.ntmps85
 go_wp2_with (go_at_call 79; refine (in6_calls _ _ _ _ (by assumption) _).mono ?_; rintro e w' ⟨rfl, ⟨n0, rfl⟩⟩)
 go_quiet ((go_at_call 79; exact Calls.quiet_of ((in6_calls _ _ _ _ (by assumption) _).mono fun _ _ h => ⟨h.1, h.2.out⟩)))
 go_wp2_with fail
 go_ret
 exact ⟨rfl, by repeat (with_reducible first | exact Below.refl _ _ | apply pw_below_drewN | apply below_drew1 | apply below_alloc | refine below_set ?_ (by simp))⟩
set_option maxHeartbeats 2000000 in
set_option maxRecDepth 100000 in
theorem fit_1m6 (a2 a6 a7 a8 : Int) (w : World) (g6 : decide (1900 ≤ a6 ∧ a6 ≤ 2199) = true) (g7 : decide (a6 ≤ a7 ∧ a7 ≤ 2199) = true) (g8 : decide (0 ≤ a8 ∧ a8 ≤ 2) = true) (b : Bool) (c1 : decide (1 ≤ a2 ∧ a2 ≤ 30) = b) : Calls Try.prog 85 #[.agg #[.int .i64 1, .int .i64 6, .int .i64 a2, .int .i64 0, .int .i64 0, .int .i64 0, .int .i64 a6, .int .i64 a7, .int .i64 a8]] w (Fits b w) := by
 have c0 : decide ((1 : Int) ≤ 6 ∧ (6 : Int) ≤ 12) = true := by decide
 go_enter Try.func85, Try.ntmps85
 go_wp2_with (go_at_call 79; refine (in6_calls _ _ _ _ (by assumption) _).mono ?_; rintro e w' ⟨rfl, ⟨n0, rfl⟩⟩)
 go_quiet ((go_at_call 79; exact Calls.quiet_of ((in6_calls _ _ _ _ (by assumption) _).mono fun _ _ h => ⟨h.1, h.2.out⟩)))
 go_wp2_with fail
 go_ret
 exact ⟨rfl, by repeat (with_reducible first | exact Below.refl _ _ | apply pw_below_drewN | apply below_drew1 | apply below_alloc | refine below_set ?_ (by simp))⟩
set_option maxHeartbeats 2000000 in
set_option maxRecDepth 100000 in
theorem fit_1m7 (a2 a6 a7 a8 : Int) (w : World) (g6 : decide (1900 ≤ a6 ∧ a6 ≤ 2199) = true) (g7 : decide (a6 ≤ a7 ∧ a7 ≤ 2199) = true) (g8 : decide (0 ≤ a8 ∧ a8 ≤ 2) = true) (b : Bool) (c1 : decide (1 ≤ a2 ∧ a2 ≤ 31) = b) : Calls Try.prog 85 #[.agg #[.int .i64 1, .int .i64 7, .int .i64 a2, .int .i64 0, .int .i64 0, .int .i64 0, .int .i64 a6, .int .i64 a7, .int .i64 a8]] w (Fits b w) := by
 have c0 : decide ((1 : Int) ≤ 7 ∧ (7 : Int) ≤ 12) = true := by decide
 go_enter Try.func85, Try.ntmps85
 go_wp2_with (go_at_call 79; refine (in6_calls _ _ _ _ (by assumption) _).mono ?_; rintro e w' ⟨rfl, ⟨n0, rfl⟩⟩)
 go_quiet ((go_at_call 79; exact Calls.quiet_of ((in6_calls _ _ _ _ (by assumption) _).mono fun _ _ h => ⟨h.1, h.2.out⟩)))
 go_wp2_with fail
 go_ret
 exact ⟨rfl, by repeat (with_reducible first | exact Below.refl _ _ | apply pw_below_drewN | apply below_drew1 | apply below_alloc | refine below_set ?_ (by simp))⟩
set_option maxHeartbeats 2000000 in
set_option maxRecDepth 100000 in
theorem fit_1m8 (a2 a6 a7 a8 : Int) (w : World) (g6 : decide (1900 ≤ a6 ∧ a6 ≤ 2199) = true) (g7 : decide (a6 ≤ a7 ∧ a7 ≤ 2199) = true) (g8 : decide (0 ≤ a8 ∧ a8 ≤ 2) = true) (b : Bool) (c1 : decide (1 ≤ a2 ∧ a2 ≤ 31) = b) : Calls Try.prog 85 #[.agg #[.int .i64 1, .int .i64 8, .int .i64 a2, .int .i64 0, .int .i64 0, .int .i64 0, .int .i64 a6, .int .i64 a7, .int .i64 a8]] w (Fits b w) := by
 have c0 : decide ((1 : Int) ≤ 8 ∧ (8 : Int) ≤ 12) = true := by decide
 go_enter Try.func85, Try.ntmps85
 go_wp2_with (go_at_call 79; refine (in6_calls _ _ _ _ (by assumption) _).mono ?_; rintro e w' ⟨rfl, ⟨n0, rfl⟩⟩)
 go_quiet ((go_at_call 79; exact Calls.quiet_of ((in6_calls _ _ _ _ (by assumption) _).mono fun _ _ h => ⟨h.1, h.2.out⟩)))
 go_wp2_with fail
 go_ret
 exact ⟨rfl, by repeat (with_reducible first | exact Below.refl _ _ | apply pw_below_drewN | apply below_drew1 | apply below_alloc | refine below_set ?_ (by simp))⟩
set_option maxHeartbeats 2000000 in
set_option maxRecDepth 100000 in
theorem fit_1m9 (a2 a6 a7 a8 : Int) (w : World) (g6 : decide (1900 ≤ a6 ∧ a6 ≤ 2199) = true) (g7 : decide (a6 ≤ a7 ∧ a7 ≤ 2199) = true) (g8 : decide (0 ≤ a8 ∧ a8 ≤ 2) = true) (b : Bool) (c1 : decide (1 ≤ a2 ∧ a2 ≤ 30) = b) : Calls Try.prog 85 #[.agg #[.int .i64 1, .int .i64 9, .int .i64 a2, .int .i64 0, .int .i64 0, .int .i64 0, .int .i64 a6, .int .i64 a7, .int .i64 a8]] w (Fits b w) := by
 have c0 : decide ((1 : Int) ≤ 9 ∧ (9 : Int) ≤ 12) = true := by decide
 go_enter Try.func85, Try.ntmps85
 go_wp2_with (go_at_call 79; refine (in6_calls _ _ _ _ (by assumption) _).mono ?_; rintro e w' ⟨rfl, ⟨n0, rfl⟩⟩)
 go_quiet ((go_at_call 79; exact Calls.quiet_of ((in6_calls _ _ _ _ (by assumption) _).mono fun _ _ h => ⟨h.1, h.2.out⟩)))
 go_wp2_with fail
 go_ret
 exact ⟨rfl, by repeat (with_reducible first | exact Below.refl _ _ | apply pw_below_drewN | apply below_drew1 | apply below_alloc | refine below_set ?_ (by simp))⟩
set_option maxHeartbeats 2000000 in
set_option maxRecDepth 100000 in
theorem fit_1m10 (a2 a6 a7 a8 : Int) (w : World) (g6 : decide (1900 ≤ a6 ∧ a6 ≤ 2199) = true) (g7 : decide (a6 ≤ a7 ∧ a7 ≤ 2199) = true) (g8 : decide (0 ≤ a8 ∧ a8 ≤ 2) = true) (b : Bool) (c1 : decide (1 ≤ a2 ∧ a2 ≤ 31) = b) : Calls Try.prog 85 #[.agg #[.int .i64 1, .int .i64 10, .int .i64 a2, .int .i64 0, .int .i64 0, .int .i64 0, .int .i64 a6, .int .i64 a7, .int .i64 a8]] w (Fits b w) := by
 have c0 : decide ((1 : Int) ≤ 10 ∧ (10 : Int) ≤ 12) = true := by decide
 go_enter Try.func85, Try.ntmps85
 go_wp2_with (go_at_call 79; refine (in6_calls _ _ _ _ (by assumption) _).mono ?_; rintro e w' ⟨rfl, ⟨n0, rfl⟩⟩)
 go_quiet ((go_at_call 79; exact Calls.quiet_of ((in6_calls _ _ _ _ (by assumption) _).mono fun _ _ h => ⟨h.1, h.2.out⟩)))
 go_wp2_with fail
 go_ret
 exact ⟨rfl, by repeat (with_reducible first | exact Below.refl _ _ | apply pw_below_drewN | apply below_drew1 | apply below_alloc | refine below_set ?_ (by simp))⟩
set_option maxHeartbeats 2000000 in
set_option maxRecDepth 100000 in
theorem fit_1m11 (a2 a6 a7 a8 : Int) (w : World) (g6 : decide (1900 ≤ a6 ∧ a6 ≤ 2199) = true) (g7 : decide (a6 ≤ a7 ∧ a7 ≤ 2199) = true) (g8 : decide (0 ≤ a8 ∧ a8 ≤ 2) = true) (b : Bool) (c1 : decide (1 ≤ a2 ∧ a2 ≤ 30) = b) : Calls Try.prog 85 #[.agg #[.int .i64 1, .int .i64 11, .int .i64 a2, .int .i64 0, .int .i64 0, .int .i64 0, .int .i64 a6, .int .i64 a7, .int .i64 a8]] w (Fits b w) := by
 have c0 : decide ((1 : Int) ≤ 11 ∧ (11 : Int) ≤ 12) = true := by decide
 go_enter Try.func85, Try.ntmps85
 go_wp2_with (go_at_call 79; refine (in6_calls _ _ _ _ (by assumption) _).mono ?_; rintro e w' ⟨rfl, ⟨n0, rfl⟩⟩)
 go_quiet ((go_at_call 79; exact Calls.quiet_of ((in6_calls _ _ _ _ (by assumption) _).mono fun _ _ h => ⟨h.1, h.2.out⟩)))
 go_wp2_with fail
 go_ret
 exact ⟨rfl, by repeat (with_reducible first | exact Below.refl _ _ | apply pw_below_drewN | apply below_drew1 | apply below_alloc | refine below_set ?_ (by simp))⟩
set_option maxHeartbeats 2000000 in
set_option maxRecDepth 100000 in
theorem fit_1m12 (a2 a6 a7 a8 : Int) (w : World) (g6 : decide (1900 ≤ a6 ∧ a6 ≤ 2199) = true) (g7 : decide (a6 ≤ a7 ∧ a7 ≤ 2199) = true) (g8 : decide (0 ≤ a8 ∧ a8 ≤ 2) = true) (b : Bool) (c1 : decide (1 ≤ a2 ∧ a2 ≤ 31) = b) : Calls Try.prog 85 #[.agg #[.int .i64 1, .int .i64 12, .int .i64 a2, .int .i64 0, .int .i64 0, .int .i64 0, .int .i64 a6, .int .i64 a7, .int .i64 a8]] w (Fits b w) := by
 have c0 : decide ((1 : Int) ≤ 12 ∧ (12 : Int) ≤ 12) = true := by decide
 go_enter Try.func85, Try.ntmps85
 go_wp2_with (go_at_call 79; refine (in6_calls _ _ _ _ (by assumption) _).mono ?_; rintro e w' ⟨rfl, ⟨n0, rfl⟩⟩)
 go_quiet ((go_at_call 79; exact Calls.quiet_of ((in6_calls _ _ _ _ (by assumption) _).mono fun _ _ h => ⟨h.1, h.2.out⟩)))
 go_wp2_with fail
 go_ret
 exact ⟨rfl, by repeat (with_reducible first | exact Below.refl _ _ | apply pw_below_drewN | apply below_drew1 | apply below_alloc | refine below_set ?_ (by simp))⟩
theorem not_years {a0 a1 a2 a3 a4 a5 a6 a7 a8 : Int} (h4 : ¬ a0 = 4) (h : ¬ (1900 ≤ a6 ∧ a6 ≤ 2199 ∧ a6 ≤ a7 ∧ a7 ≤ 2199 ∧ 0 ≤ a8 ∧ a8 ≤ 2)) : M.may ⟨a0, a1, a2, a3, a4, a5, a6, a7, a8⟩ = false := by
 have hy : M.yearsOk ⟨a0, a1, a2, a3, a4, a5, a6, a7, a8⟩ = false := decide_eq_false h
 unfold M.may
 simp only [hy, Bool.and_false, h4, if_false]
 repeat' split
 all_goals rfl
theorem fit_calls (a0 a1 a2 a3 a4 a5 a6 a7 a8 : Int) (w : World) :
  Calls Try.prog 85 #[.agg #[.int .i64 a0, .int .i64 a1, .int .i64 a2, .int .i64 a3, .int .i64 a4, .int .i64 a5, .int .i64 a6, .int .i64 a7, .int .i64 a8]] w (Fits (M.may ⟨a0, a1, a2, a3, a4, a5, a6, a7, a8⟩) w) := by
 by_cases k4 : a0 = 4
 ·
  subst k4
  by_cases z1 : a1 = 0
  rotate_left
  ·
   rw [show M.may ⟨4, a1, a2, a3, a4, a5, a6, a7, a8⟩ = false by simp [M.may, z1]]; exact fit_4n0 _ _ _ _ _ _ _ _ w z1
  subst z1
  by_cases z3 : a3 = 0
  rotate_left
  ·
   rw [show M.may ⟨4, 0, a2, a3, a4, a5, a6, a7, a8⟩ = false by simp [M.may, z3]]; exact fit_4n1 _ _ _ _ _ _ _ w z3
  subst z3
  by_cases z4 : a4 = 0
  rotate_left
  ·
   rw [show M.may ⟨4, 0, a2, 0, a4, a5, a6, a7, a8⟩ = false by simp [M.may, z4]]; exact fit_4n2 _ _ _ _ _ _ w z4
  subst z4
  by_cases z5 : a5 = 0
  rotate_left
  ·
   rw [show M.may ⟨4, 0, a2, 0, 0, a5, a6, a7, a8⟩ = false by simp [M.may, z5]]; exact fit_4n3 _ _ _ _ _ w z5
  subst z5
  by_cases z6 : a6 = 0
  rotate_left
  ·
   rw [show M.may ⟨4, 0, a2, 0, 0, 0, a6, a7, a8⟩ = false by simp [M.may, z6]]; exact fit_4n4 _ _ _ _ w z6
  subst z6
  by_cases z7 : a7 = 0
  rotate_left
  ·
   rw [show M.may ⟨4, 0, a2, 0, 0, 0, 0, a7, a8⟩ = false by simp [M.may, z7]]; exact fit_4n5 _ _ _ w z7
  subst z7
  by_cases z8 : a8 = 0
  rotate_left
  ·
   rw [show M.may ⟨4, 0, a2, 0, 0, 0, 0, 0, a8⟩ = false by simp [M.may, z8]]; exact fit_4n6 _ _ w z8
  subst z8
  exact fit_4 _ _ _ _ _ _ _ _ w _ (by simp [M.may]) ⟨rfl, rfl, rfl, rfl, rfl, rfl, rfl⟩
 by_cases hy : 1900 ≤ a6 ∧ a6 ≤ 2199 ∧ a6 ≤ a7 ∧ a7 ≤ 2199 ∧ 0 ≤ a8 ∧ a8 ≤ 2
 rotate_left
 ·
  rw [not_years k4 hy]; exact fit_y _ _ _ _ _ _ _ _ _ w k4 hy
 have hyo : decide (1900 ≤ a6 ∧ a6 ≤ 2199 ∧ a6 ≤ a7 ∧ a7 ≤ 2199 ∧ 0 ≤ a8 ∧ a8 ≤ 2) = true := decide_eq_true hy
 have g6 := decide_eq_true (show 1900 ≤ a6 ∧ a6 ≤ 2199 from ⟨hy.1, hy.2.1⟩)
 have g7 := decide_eq_true (show a6 ≤ a7 ∧ a7 ≤ 2199 from ⟨hy.2.2.1, hy.2.2.2.1⟩)
 have g8 := decide_eq_true (show 0 ≤ a8 ∧ a8 ≤ 2 from hy.2.2.2.2)
 by_cases k1 : a0 = 1
 ·
  subst k1
  by_cases z3 : a3 = 0
  rotate_left
  ·
   rw [show M.may ⟨1, a1, a2, a3, a4, a5, a6, a7, a8⟩ = false by simp [M.may, z3]]; exact fit_1n0 _ _ _ _ _ _ _ _ w g6 g7 g8 z3
  subst z3
  by_cases z4 : a4 = 0
  rotate_left
  ·
   rw [show M.may ⟨1, a1, a2, 0, a4, a5, a6, a7, a8⟩ = false by simp [M.may, z4]]; exact fit_1n1 _ _ _ _ _ _ _ w g6 g7 g8 z4
  subst z4
  by_cases z5 : a5 = 0
  rotate_left
  ·
   rw [show M.may ⟨1, a1, a2, 0, 0, a5, a6, a7, a8⟩ = false by simp [M.may, z5]]; exact fit_1n2 _ _ _ _ _ _ w g6 g7 g8 z5
  subst z5
  by_cases hm : 1 ≤ a1 ∧ a1 ≤ 12
  rotate_left
  ·
   rw [show M.may ⟨1, a1, a2, 0, 0, 0, a6, a7, a8⟩ = false by unfold M.may; rw [if_pos rfl]; rw [Bool.and_eq_false_iff]; left; rw [decide_eq_false_iff_not]; simp only; omega]
   exact fit_1c0 _ _ _ _ _ w g6 g7 g8 (decide_eq_false hm)
  have hv : ∀ {p : Prop} [Decidable p], p → M.may ⟨1, a1, a2, 0, 0, 0, a6, a7, a8⟩ = decide (1 ≤ a2 ∧ a2 ≤ M.mlen 2000 a1) := by
   intro p _ _
   show (decide (1 ≤ a1 ∧ a1 ≤ 12 ∧ (0 : Int) = 0 ∧ (0 : Int) = 0 ∧ (0 : Int) = 0 ∧ 1 ≤ a2 ∧ a2 ≤ M.mlen 2000 a1) && decide (1900 ≤ a6 ∧ a6 ≤ 2199 ∧ a6 ≤ a7 ∧ a7 ≤ 2199 ∧ 0 ≤ a8 ∧ a8 ≤ 2)) = _
   rw [hyo, Bool.and_true, decide_eq_decide]
   exact ⟨fun h => ⟨h.2.2.2.2.2.1, h.2.2.2.2.2.2⟩, fun h => ⟨hm.1, hm.2, rfl, rfl, rfl, h.1, h.2⟩⟩
  rw [hv trivial]
  have h12 : a1 = 1 ∨ a1 = 2 ∨ a1 = 3 ∨ a1 = 4 ∨ a1 = 5 ∨ a1 = 6 ∨ a1 = 7 ∨ a1 = 8 ∨ a1 = 9 ∨ a1 = 10 ∨ a1 = 11 ∨ a1 = 12 := by omega
  rcases h12 with rfl | rfl | rfl | rfl | rfl | rfl | rfl | rfl | rfl | rfl | rfl | rfl
  ·
   exact fit_1m1 _ _ _ _ w g6 g7 g8 _ rfl
  ·
   exact fit_1m2 _ _ _ _ w g6 g7 g8 _ rfl
  ·
   exact fit_1m3 _ _ _ _ w g6 g7 g8 _ rfl
  ·
   exact fit_1m4 _ _ _ _ w g6 g7 g8 _ rfl
  ·
   exact fit_1m5 _ _ _ _ w g6 g7 g8 _ rfl
  ·
   exact fit_1m6 _ _ _ _ w g6 g7 g8 _ rfl
  ·
   exact fit_1m7 _ _ _ _ w g6 g7 g8 _ rfl
  ·
   exact fit_1m8 _ _ _ _ w g6 g7 g8 _ rfl
  ·
   exact fit_1m9 _ _ _ _ w g6 g7 g8 _ rfl
  ·
   exact fit_1m10 _ _ _ _ w g6 g7 g8 _ rfl
  ·
   exact fit_1m11 _ _ _ _ w g6 g7 g8 _ rfl
  ·
   exact fit_1m12 _ _ _ _ w g6 g7 g8 _ rfl
 by_cases k2 : a0 = 2
 ·
  subst k2
  have no : ∀ {q : Prop} [Decidable q], ¬ q → (decide q && M.yearsOk ⟨2, a1, a2, a3, a4, a5, a6, a7, a8⟩) = false := by intro q _ h; simp [h]
  have hv : M.may ⟨2, a1, a2, a3, a4, a5, a6, a7, a8⟩ = (decide (a2 = 0 ∧ a5 = 0 ∧ 1 ≤ a1 ∧ a1 ≤ 12 ∧ 0 ≤ a4 ∧ a4 ≤ 6 ∧ 1 ≤ a3 ∧ a3 ≤ 5) && M.yearsOk ⟨2, a1, a2, a3, a4, a5, a6, a7, a8⟩) := rfl
  rw [hv]
  by_cases z2 : a2 = 0
  rotate_left
  ·
   rw [no (by omega)]; exact fit_2n0 _ _ _ _ _ _ _ _ w g6 g7 g8 z2
  subst z2
  by_cases z5 : a5 = 0
  rotate_left
  ·
   rw [no (by omega)]; exact fit_2n1 _ _ _ _ _ _ _ w g6 g7 g8 z5
  subst z5
  by_cases c1 : 1 ≤ a1 ∧ a1 ≤ 12
  rotate_left
  ·
   rw [no (by omega)]; exact fit_2c0 _ _ _ _ _ _ w g6 g7 g8 (decide_eq_false c1)
  by_cases c4 : 0 ≤ a4 ∧ a4 ≤ 6
  rotate_left
  ·
   rw [no (by omega)]; exact fit_2c1 _ _ _ _ _ _ w g6 g7 g8 (decide_eq_true c1) (decide_eq_false c4)
  by_cases c3 : 1 ≤ a3 ∧ a3 ≤ 5
  rotate_left
  ·
   rw [no (by omega)]; exact fit_2c2 _ _ _ _ _ _ w g6 g7 g8 (decide_eq_true c1) (decide_eq_true c4) (decide_eq_false c3)
  rw [show (decide ((0 : Int) = 0 ∧ (0 : Int) = 0 ∧ 1 ≤ a1 ∧ a1 ≤ 12 ∧ 0 ≤ a4 ∧ a4 ≤ 6 ∧ 1 ≤ a3 ∧ a3 ≤ 5) && M.yearsOk ⟨2, a1, 0, a3, a4, 0, a6, a7, a8⟩) = true by rw [Bool.and_eq_true]; exact ⟨decide_eq_true (by omega), hyo⟩]
  exact fit_2c3 _ _ _ _ _ _ w g6 g7 g8 (decide_eq_true c1) (decide_eq_true c4) (decide_eq_true c3)
 by_cases k3 : a0 = 3
 ·
  subst k3
  have no : ∀ {q : Prop} [Decidable q], ¬ q → (decide q && M.yearsOk ⟨3, a1, a2, a3, a4, a5, a6, a7, a8⟩) = false := by intro q _ h; simp [h]
  have hv : M.may ⟨3, a1, a2, a3, a4, a5, a6, a7, a8⟩ = (decide (a1 = 0 ∧ a2 = 0 ∧ a3 = 0 ∧ a4 = 0 ∧ -100 ≤ a5 ∧ a5 ≤ 100) && M.yearsOk ⟨3, a1, a2, a3, a4, a5, a6, a7, a8⟩) := rfl
  rw [hv]
  by_cases z1 : a1 = 0
  rotate_left
  ·
   rw [no (by omega)]; exact fit_3n0 _ _ _ _ _ _ _ _ w g6 g7 g8 z1
  subst z1
  by_cases z2 : a2 = 0
  rotate_left
  ·
   rw [no (by omega)]; exact fit_3n1 _ _ _ _ _ _ _ w g6 g7 g8 z2
  subst z2
  by_cases z3 : a3 = 0
  rotate_left
  ·
   rw [no (by omega)]; exact fit_3n2 _ _ _ _ _ _ w g6 g7 g8 z3
  subst z3
  by_cases z4 : a4 = 0
  rotate_left
  ·
   rw [no (by omega)]; exact fit_3n3 _ _ _ _ _ w g6 g7 g8 z4
  subst z4
  by_cases c5 : -100 ≤ a5 ∧ a5 ≤ 100
  rotate_left
  ·
   rw [no (by omega)]; exact fit_3c0 _ _ _ _ w g6 g7 g8 (decide_eq_false c5)
  rw [show (decide ((0 : Int) = 0 ∧ (0 : Int) = 0 ∧ (0 : Int) = 0 ∧ (0 : Int) = 0 ∧ -100 ≤ a5 ∧ a5 ≤ 100) && M.yearsOk ⟨3, 0, 0, 0, 0, a5, a6, a7, a8⟩) = true by rw [Bool.and_eq_true]; exact ⟨decide_eq_true (by omega), hyo⟩]
  exact fit_3c1 _ _ _ _ w g6 g7 g8 (decide_eq_true c5)
 rw [show M.may ⟨a0, a1, a2, a3, a4, a5, a6, a7, a8⟩ = false by unfold M.may; simp only; rw [if_neg k1, if_neg k2, if_neg k3, if_neg k4]]
 exact fit_0 _ _ _ _ _ _ _ _ _ w g6 g7 g8 k1 k2 k3 k4
end Go.Proofs.Ytoncignjcgjhhaa.H
