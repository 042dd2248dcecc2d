/- Contracts and facts of functions of the program (calendar, dates and their documents), joined in one text by a program of this session. No condition but what each theorem states. -/
import Derived.Test.YtoncignjcgjhhaaCGC
import Derived.Test.YtoncignjcgjhhaaCGA
set_option linter.unusedVariables false
set_option linter.unusedSimpArgs false
namespace Go.Proofs.Ytoncignjcgjhhaa.H
open Go.RowKit Go.Maps Go.Proofs.YtoncignjcgjhhaaW.PrintWords Go.Proofs.YtoncignjcgjhhaaW.PrintLast Go.Proofs.YtoncignjcgjhhaaW.PrintMore
open Go.Proofs.Ytoncignjcgjhhaa.Q (S63 k63 z63 eqA63)
attribute [local go_sem high] eqA63
theorem xbU (a b c : Int) (r : Bool) (hr : decide (b ≤ a ∧ a ≤ c) = r) (w : World) :
  Calls Try.prog 79 #[.int .i64 a, .int .i64 b, .int .i64 c] w fun e w' => e = .returned (.bool r) ∧ Drawn0 w w' :=
 Q.xdG.calls a b c r w (by have := L.within a b c; unfold Q.xbL.f at this; unfold Q.xdG.f; rw [this, hr])
def Fits (b : Bool) (w : World) (e : Ending) (w' : World) : Prop := e = .returned (.bool b) ∧ Below w.heap.size w w'
set_option maxHeartbeats 1000000 in
set_option maxRecDepth 100000 in
theorem fit_4 (a1 a2 a3 a4 a5 a6 a7 a8 : Int) (w : World) (b : Bool) (hb : decide (0 ≤ a2 ∧ a2 ≤ 109572) = b) (hz : a1 = 0 ∧ a3 = 0 ∧ a4 = 0 ∧ a5 = 0 ∧ a6 = 0 ∧ a7 = 0 ∧ a8 = 0) :
  Calls Try.prog 85 #[.agg #[.int .i64 4, .int .i64 a1, .int .i64 a2, .int .i64 a3, .int .i64 a4, .int .i64 a5, .int .i64 a6, .int .i64 a7, .int .i64 a8]] w (Fits b w) := by
 obtain ⟨rfl, rfl, rfl, rfl, rfl, rfl, rfl⟩ := hz
 go_enter Try.func85, Try.ntmps85
 go_wp2_with (go_at_call 79; refine (xbU _ _ _ _ (by assumption) _).mono ?_; rintro e w' ⟨rfl, ⟨n0, rfl⟩⟩)
 go_ret
 exact ⟨rfl, by repeat (with_reducible first | exact Below.refl _ _ | apply xaA | apply xaC | apply xaB | refine xaF ?_ (by simp))⟩
set_option maxHeartbeats 2000000 in
set_option maxRecDepth 100000 in
theorem fit_4n0 (a1 a2 a3 a4 a5 a6 a7 a8 : Int) (w : World) (hz : ¬ a1 = 0) : Calls Try.prog 85 #[.agg #[.int .i64 4, .int .i64 a1, .int .i64 a2, .int .i64 a3, .int .i64 a4, .int .i64 a5, .int .i64 a6, .int .i64 a7, .int .i64 a8]] w (Fits false w) := by
 have kz : (a1 == 0) = false := by simpa using hz
 clear hz
 go_enter Try.func85, Try.ntmps85
 go_wp2_with (go_at_call 79; refine (xbU _ _ _ _ (by assumption) _).mono ?_; rintro e w' ⟨rfl, ⟨n0, rfl⟩⟩)
 go_ret
 exact ⟨rfl, by repeat (with_reducible first | exact Below.refl _ _ | apply xaA | apply xaC | apply xaB | refine xaF ?_ (by simp))⟩
set_option maxHeartbeats 2000000 in
set_option maxRecDepth 100000 in
theorem fit_4n1 (a2 a3 a4 a5 a6 a7 a8 : Int) (w : World) (hz : ¬ a3 = 0) : Calls Try.prog 85 #[.agg #[.int .i64 4, .int .i64 0, .int .i64 a2, .int .i64 a3, .int .i64 a4, .int .i64 a5, .int .i64 a6, .int .i64 a7, .int .i64 a8]] w (Fits false w) := by
 have kz : (a3 == 0) = false := by simpa using hz
 clear hz
 go_enter Try.func85, Try.ntmps85
 go_wp2_with (go_at_call 79; refine (xbU _ _ _ _ (by assumption) _).mono ?_; rintro e w' ⟨rfl, ⟨n0, rfl⟩⟩)
 go_ret
 exact ⟨rfl, by repeat (with_reducible first | exact Below.refl _ _ | apply xaA | apply xaC | apply xaB | refine xaF ?_ (by simp))⟩
set_option maxHeartbeats 2000000 in
set_option maxRecDepth 100000 in
theorem fit_4n2 (a2 a4 a5 a6 a7 a8 : Int) (w : World) (hz : ¬ a4 = 0) : Calls Try.prog 85 #[.agg #[.int .i64 4, .int .i64 0, .int .i64 a2, .int .i64 0, .int .i64 a4, .int .i64 a5, .int .i64 a6, .int .i64 a7, .int .i64 a8]] w (Fits false w) := by
 have kz : (a4 == 0) = false := by simpa using hz
 clear hz
 go_enter Try.func85, Try.ntmps85
 go_wp2_with (go_at_call 79; refine (xbU _ _ _ _ (by assumption) _).mono ?_; rintro e w' ⟨rfl, ⟨n0, rfl⟩⟩)
 go_ret
 exact ⟨rfl, by repeat (with_reducible first | exact Below.refl _ _ | apply xaA | apply xaC | apply xaB | refine xaF ?_ (by simp))⟩
set_option maxHeartbeats 2000000 in
set_option maxRecDepth 100000 in
theorem fit_4n3 (a2 a5 a6 a7 a8 : Int) (w : World) (hz : ¬ a5 = 0) : Calls Try.prog 85 #[.agg #[.int .i64 4, .int .i64 0, .int .i64 a2, .int .i64 0, .int .i64 0, .int .i64 a5, .int .i64 a6, .int .i64 a7, .int .i64 a8]] w (Fits false w) := by
 have kz : (a5 == 0) = false := by simpa using hz
 clear hz
 go_enter Try.func85, Try.ntmps85
 go_wp2_with (go_at_call 79; refine (xbU _ _ _ _ (by assumption) _).mono ?_; rintro e w' ⟨rfl, ⟨n0, rfl⟩⟩)
 go_ret
 exact ⟨rfl, by repeat (with_reducible first | exact Below.refl _ _ | apply xaA | apply xaC | apply xaB | refine xaF ?_ (by simp))⟩
set_option maxHeartbeats 2000000 in
set_option maxRecDepth 100000 in
theorem fit_4n4 (a2 a6 a7 a8 : Int) (w : World) (hz : ¬ a6 = 0) : Calls Try.prog 85 #[.agg #[.int .i64 4, .int .i64 0, .int .i64 a2, .int .i64 0, .int .i64 0, .int .i64 0, .int .i64 a6, .int .i64 a7, .int .i64 a8]] w (Fits false w) := by
 have kz : (a6 == 0) = false := by simpa using hz
 clear hz
 go_enter Try.func85, Try.ntmps85
 go_wp2_with (go_at_call 79; refine (xbU _ _ _ _ (by assumption) _).mono ?_; rintro e w' ⟨rfl, ⟨n0, rfl⟩⟩)
 go_ret
 exact ⟨rfl, by repeat (with_reducible first | exact Below.refl _ _ | apply xaA | apply xaC | apply xaB | refine xaF ?_ (by simp))⟩
set_option maxHeartbeats 2000000 in
set_option maxRecDepth 100000 in
theorem fit_4n5 (a2 a7 a8 : Int) (w : World) (hz : ¬ a7 = 0) : Calls Try.prog 85 #[.agg #[.int .i64 4, .int .i64 0, .int .i64 a2, .int .i64 0, .int .i64 0, .int .i64 0, .int .i64 0, .int .i64 a7, .int .i64 a8]] w (Fits false w) := by
 have kz : (a7 == 0) = false := by simpa using hz
 clear hz
 go_enter Try.func85, Try.ntmps85
 go_wp2_with (go_at_call 79; refine (xbU _ _ _ _ (by assumption) _).mono ?_; rintro e w' ⟨rfl, ⟨n0, rfl⟩⟩)
 go_ret
 exact ⟨rfl, by repeat (with_reducible first | exact Below.refl _ _ | apply xaA | apply xaC | apply xaB | refine xaF ?_ (by simp))⟩
set_option maxHeartbeats 2000000 in
set_option maxRecDepth 100000 in
theorem fit_4n6 (a2 a8 : Int) (w : World) (hz : ¬ a8 = 0) : Calls Try.prog 85 #[.agg #[.int .i64 4, .int .i64 0, .int .i64 a2, .int .i64 0, .int .i64 0, .int .i64 0, .int .i64 0, .int .i64 0, .int .i64 a8]] w (Fits false w) := by
 have kz : (a8 == 0) = false := by simpa using hz
 clear hz
 go_enter Try.func85, Try.ntmps85
 go_wp2_with (go_at_call 79; refine (xbU _ _ _ _ (by assumption) _).mono ?_; rintro e w' ⟨rfl, ⟨n0, rfl⟩⟩)
 go_ret
 exact ⟨rfl, by repeat (with_reducible first | exact Below.refl _ _ | apply xaA | apply xaC | apply xaB | refine xaF ?_ (by simp))⟩
set_option maxHeartbeats 1000000 in
set_option maxRecDepth 100000 in
theorem fit_y (a0 : Int) (a1 a2 a3 a4 a5 a6 a7 a8 : Int) (w : World) (h4 : ¬ a0 = 4) (h : ¬ (1900 ≤ a6 ∧ a6 ≤ 2199 ∧ a6 ≤ a7 ∧ a7 ≤ 2199 ∧ 0 ≤ a8 ∧ a8 ≤ 2)) :
  Calls Try.prog 85 #[.agg #[.int .i64 a0, .int .i64 a1, .int .i64 a2, .int .i64 a3, .int .i64 a4, .int .i64 a5, .int .i64 a6, .int .i64 a7, .int .i64 a8]] w (Fits false w) := by
 have g4 : (a0 == 4) = false := by simpa using h4
 by_cases h6 : 1900 ≤ a6 ∧ a6 ≤ 2199
 ·
  have g6 := decide_eq_true h6
  by_cases h7 : a6 ≤ a7 ∧ a7 ≤ 2199
  ·
   have g7 := decide_eq_true h7
   have g8 : decide (0 ≤ a8 ∧ a8 ≤ 2) = false := decide_eq_false (by omega)
   clear h6 h7 h h4
   go_enter Try.func85, Try.ntmps85
   go_wp2_with (go_at_call 79; refine (xbU _ _ _ _ (by assumption) _).mono ?_; rintro e w' ⟨rfl, ⟨n0, rfl⟩⟩)
   go_ret
   exact ⟨rfl, by repeat (with_reducible first | exact Below.refl _ _ | apply xaA | apply xaC | apply xaB | refine xaF ?_ (by simp))⟩
  ·
   have g7 := decide_eq_false h7;clear h6 h7 h h4
   go_enter Try.func85, Try.ntmps85
   go_wp2_with (go_at_call 79; refine (xbU _ _ _ _ (by assumption) _).mono ?_; rintro e w' ⟨rfl, ⟨n0, rfl⟩⟩)
   go_ret
   exact ⟨rfl, by repeat (with_reducible first | exact Below.refl _ _ | apply xaA | apply xaC | apply xaB | refine xaF ?_ (by simp))⟩
 ·
  have g6 := decide_eq_false h6;clear h6 h h4
  go_enter Try.func85, Try.ntmps85
  go_wp2_with (go_at_call 79; refine (xbU _ _ _ _ (by assumption) _).mono ?_; rintro e w' ⟨rfl, ⟨n0, rfl⟩⟩)
  go_ret
  exact ⟨rfl, by repeat (with_reducible first | exact Below.refl _ _ | apply xaA | apply xaC | apply xaB | refine xaF ?_ (by simp))⟩
set_option maxHeartbeats 1000000 in
set_option maxRecDepth 100000 in
theorem fit_0 (a0 : Int) (a1 a2 a3 a4 a5 a6 a7 a8 : Int) (w : World) (g6 : decide (1900 ≤ a6 ∧ a6 ≤ 2199) = true) (g7 : decide (a6 ≤ a7 ∧ a7 ≤ 2199) = true) (g8 : decide (0 ≤ a8 ∧ a8 ≤ 2) = true) (h1 : ¬ a0 = 1) (h2 : ¬ a0 = 2) (h3 : ¬ a0 = 3) (h4 : ¬ a0 = 4) :
  Calls Try.prog 85 #[.agg #[.int .i64 a0, .int .i64 a1, .int .i64 a2, .int .i64 a3, .int .i64 a4, .int .i64 a5, .int .i64 a6, .int .i64 a7, .int .i64 a8]] w (Fits false w) := by
 have k1 : (a0 == 1) = false := by simpa using h1
 have k2 : (a0 == 2) = false := by simpa using h2
 have k3 : (a0 == 3) = false := by simpa using h3
 have k4 : (a0 == 4) = false := by simpa using h4
 clear h1 h2 h3 h4
 go_enter Try.func85, Try.ntmps85
 go_wp2_with (go_at_call 79; refine (xbU _ _ _ _ (by assumption) _).mono ?_; rintro e w' ⟨rfl, ⟨n0, rfl⟩⟩)
 go_ret
 exact ⟨rfl, by repeat (with_reducible first | exact Below.refl _ _ | apply xaA | apply xaC | apply xaB | refine xaF ?_ (by simp))⟩
set_option maxHeartbeats 2000000 in
set_option maxRecDepth 100000 in
theorem fit_2n0 (a1 a2 a3 a4 a5 a6 a7 a8 : Int) (w : World) (g6 : decide (1900 ≤ a6 ∧ a6 ≤ 2199) = true) (g7 : decide (a6 ≤ a7 ∧ a7 ≤ 2199) = true) (g8 : decide (0 ≤ a8 ∧ a8 ≤ 2) = true) (hz : ¬ a2 = 0) : Calls Try.prog 85 #[.agg #[.int .i64 2, .int .i64 a1, .int .i64 a2, .int .i64 a3, .int .i64 a4, .int .i64 a5, .int .i64 a6, .int .i64 a7, .int .i64 a8]] w (Fits false w) := by
 have kz : (a2 == 0) = false := by simpa using hz
 clear hz
 go_enter Try.func85, Try.ntmps85
 go_wp2_with (go_at_call 79; refine (xbU _ _ _ _ (by assumption) _).mono ?_; rintro e w' ⟨rfl, ⟨n0, rfl⟩⟩)
 go_ret
 exact ⟨rfl, by repeat (with_reducible first | exact Below.refl _ _ | apply xaA | apply xaC | apply xaB | refine xaF ?_ (by simp))⟩
set_option maxHeartbeats 2000000 in
set_option maxRecDepth 100000 in
theorem fit_2n1 (a1 a3 a4 a5 a6 a7 a8 : Int) (w : World) (g6 : decide (1900 ≤ a6 ∧ a6 ≤ 2199) = true) (g7 : decide (a6 ≤ a7 ∧ a7 ≤ 2199) = true) (g8 : decide (0 ≤ a8 ∧ a8 ≤ 2) = true) (hz : ¬ a5 = 0) : Calls Try.prog 85 #[.agg #[.int .i64 2, .int .i64 a1, .int .i64 0, .int .i64 a3, .int .i64 a4, .int .i64 a5, .int .i64 a6, .int .i64 a7, .int .i64 a8]] w (Fits false w) := by
 have kz : (a5 == 0) = false := by simpa using hz
 clear hz
 go_enter Try.func85, Try.ntmps85
 go_wp2_with (go_at_call 79; refine (xbU _ _ _ _ (by assumption) _).mono ?_; rintro e w' ⟨rfl, ⟨n0, rfl⟩⟩)
 go_ret
 exact ⟨rfl, by repeat (with_reducible first | exact Below.refl _ _ | apply xaA | apply xaC | apply xaB | refine xaF ?_ (by simp))⟩
set_option maxHeartbeats 2000000 in
set_option maxRecDepth 100000 in
theorem fit_2c0 (a1 a3 a4 a6 a7 a8 : Int) (w : World) (g6 : decide (1900 ≤ a6 ∧ a6 ≤ 2199) = true) (g7 : decide (a6 ≤ a7 ∧ a7 ≤ 2199) = true) (g8 : decide (0 ≤ a8 ∧ a8 ≤ 2) = true)  (c0 : decide (1 ≤ a1 ∧ a1 ≤ 12) = false) : Calls Try.prog 85 #[.agg #[.int .i64 2, .int .i64 a1, .int .i64 0, .int .i64 a3, .int .i64 a4, .int .i64 0, .int .i64 a6, .int .i64 a7, .int .i64 a8]] w (Fits false w) := by
 go_enter Try.func85, Try.ntmps85
 go_wp2_with (go_at_call 79; refine (xbU _ _ _ _ (by assumption) _).mono ?_; rintro e w' ⟨rfl, ⟨n0, rfl⟩⟩)
 go_ret
 exact ⟨rfl, by repeat (with_reducible first | exact Below.refl _ _ | apply xaA | apply xaC | apply xaB | refine xaF ?_ (by simp))⟩
set_option maxHeartbeats 2000000 in
set_option maxRecDepth 100000 in
theorem fit_2c1 (a1 a3 a4 a6 a7 a8 : Int) (w : World) (g6 : decide (1900 ≤ a6 ∧ a6 ≤ 2199) = true) (g7 : decide (a6 ≤ a7 ∧ a7 ≤ 2199) = true) (g8 : decide (0 ≤ a8 ∧ a8 ≤ 2) = true) (c0 : decide (1 ≤ a1 ∧ a1 ≤ 12) = true) (c1 : decide (0 ≤ a4 ∧ a4 ≤ 6) = false) : Calls Try.prog 85 #[.agg #[.int .i64 2, .int .i64 a1, .int .i64 0, .int .i64 a3, .int .i64 a4, .int .i64 0, .int .i64 a6, .int .i64 a7, .int .i64 a8]] w (Fits false w) := by
 go_enter Try.func85, Try.ntmps85
 go_wp2_with (go_at_call 79; refine (xbU _ _ _ _ (by assumption) _).mono ?_; rintro e w' ⟨rfl, ⟨n0, rfl⟩⟩)
 go_ret
 exact ⟨rfl, by repeat (with_reducible first | exact Below.refl _ _ | apply xaA | apply xaC | apply xaB | refine xaF ?_ (by simp))⟩
set_option maxHeartbeats 2000000 in
set_option maxRecDepth 100000 in
theorem fit_2c2 (a1 a3 a4 a6 a7 a8 : Int) (w : World) (g6 : decide (1900 ≤ a6 ∧ a6 ≤ 2199) = true) (g7 : decide (a6 ≤ a7 ∧ a7 ≤ 2199) = true) (g8 : decide (0 ≤ a8 ∧ a8 ≤ 2) = true) (c0 : decide (1 ≤ a1 ∧ a1 ≤ 12) = true) (c1 : decide (0 ≤ a4 ∧ a4 ≤ 6) = true) (c2 : decide (1 ≤ a3 ∧ a3 ≤ 5) = false) : Calls Try.prog 85 #[.agg #[.int .i64 2, .int .i64 a1, .int .i64 0, .int .i64 a3, .int .i64 a4, .int .i64 0, .int .i64 a6, .int .i64 a7, .int .i64 a8]] w (Fits false w) := by
 go_enter Try.func85, Try.ntmps85
 go_wp2_with (go_at_call 79; refine (xbU _ _ _ _ (by assumption) _).mono ?_; rintro e w' ⟨rfl, ⟨n0, rfl⟩⟩)
 go_ret
 exact ⟨rfl, by repeat (with_reducible first | exact Below.refl _ _ | apply xaA | apply xaC | apply xaB | refine xaF ?_ (by simp))⟩
set_option maxHeartbeats 2000000 in
set_option maxRecDepth 100000 in
theorem fit_2c3 (a1 a3 a4 a6 a7 a8 : Int) (w : World) (g6 : decide (1900 ≤ a6 ∧ a6 ≤ 2199) = true) (g7 : decide (a6 ≤ a7 ∧ a7 ≤ 2199) = true) (g8 : decide (0 ≤ a8 ∧ a8 ≤ 2) = true) (c0 : decide (1 ≤ a1 ∧ a1 ≤ 12) = true) (c1 : decide (0 ≤ a4 ∧ a4 ≤ 6) = true) (c2 : decide (1 ≤ a3 ∧ a3 ≤ 5) = true) : Calls Try.prog 85 #[.agg #[.int .i64 2, .int .i64 a1, .int .i64 0, .int .i64 a3, .int .i64 a4, .int .i64 0, .int .i64 a6, .int .i64 a7, .int .i64 a8]] w (Fits true w) := by
 go_enter Try.func85, Try.ntmps85
 go_wp2_with (go_at_call 79; refine (xbU _ _ _ _ (by assumption) _).mono ?_; rintro e w' ⟨rfl, ⟨n0, rfl⟩⟩)
 go_ret
 exact ⟨rfl, by repeat (with_reducible first | exact Below.refl _ _ | apply xaA | apply xaC | apply xaB | refine xaF ?_ (by simp))⟩
set_option maxHeartbeats 2000000 in
set_option maxRecDepth 100000 in
theorem fit_3n0 (a1 a2 a3 a4 a5 a6 a7 a8 : Int) (w : World) (g6 : decide (1900 ≤ a6 ∧ a6 ≤ 2199) = true) (g7 : decide (a6 ≤ a7 ∧ a7 ≤ 2199) = true) (g8 : decide (0 ≤ a8 ∧ a8 ≤ 2) = true) (hz : ¬ a1 = 0) : Calls Try.prog 85 #[.agg #[.int .i64 3, .int .i64 a1, .int .i64 a2, .int .i64 a3, .int .i64 a4, .int .i64 a5, .int .i64 a6, .int .i64 a7, .int .i64 a8]] w (Fits false w) := by
 have kz : (a1 == 0) = false := by simpa using hz
 clear hz
 go_enter Try.func85, Try.ntmps85
 go_wp2_with (go_at_call 79; refine (xbU _ _ _ _ (by assumption) _).mono ?_; rintro e w' ⟨rfl, ⟨n0, rfl⟩⟩)
 go_ret
 exact ⟨rfl, by repeat (with_reducible first | exact Below.refl _ _ | apply xaA | apply xaC | apply xaB | refine xaF ?_ (by simp))⟩
set_option maxHeartbeats 2000000 in
set_option maxRecDepth 100000 in
theorem fit_3n1 (a2 a3 a4 a5 a6 a7 a8 : Int) (w : World) (g6 : decide (1900 ≤ a6 ∧ a6 ≤ 2199) = true) (g7 : decide (a6 ≤ a7 ∧ a7 ≤ 2199) = true) (g8 : decide (0 ≤ a8 ∧ a8 ≤ 2) = true) (hz : ¬ a2 = 0) : Calls Try.prog 85 #[.agg #[.int .i64 3, .int .i64 0, .int .i64 a2, .int .i64 a3, .int .i64 a4, .int .i64 a5, .int .i64 a6, .int .i64 a7, .int .i64 a8]] w (Fits false w) := by
 have kz : (a2 == 0) = false := by simpa using hz
 clear hz
 go_enter Try.func85, Try.ntmps85
 go_wp2_with (go_at_call 79; refine (xbU _ _ _ _ (by assumption) _).mono ?_; rintro e w' ⟨rfl, ⟨n0, rfl⟩⟩)
 go_ret
 exact ⟨rfl, by repeat (with_reducible first | exact Below.refl _ _ | apply xaA | apply xaC | apply xaB | refine xaF ?_ (by simp))⟩
set_option maxHeartbeats 2000000 in
set_option maxRecDepth 100000 in
theorem fit_3n2 (a3 a4 a5 a6 a7 a8 : Int) (w : World) (g6 : decide (1900 ≤ a6 ∧ a6 ≤ 2199) = true) (g7 : decide (a6 ≤ a7 ∧ a7 ≤ 2199) = true) (g8 : decide (0 ≤ a8 ∧ a8 ≤ 2) = true) (hz : ¬ a3 = 0) : Calls Try.prog 85 #[.agg #[.int .i64 3, .int .i64 0, .int .i64 0, .int .i64 a3, .int .i64 a4, .int .i64 a5, .int .i64 a6, .int .i64 a7, .int .i64 a8]] w (Fits false w) := by
 have kz : (a3 == 0) = false := by simpa using hz
 clear hz
 go_enter Try.func85, Try.ntmps85
 go_wp2_with (go_at_call 79; refine (xbU _ _ _ _ (by assumption) _).mono ?_; rintro e w' ⟨rfl, ⟨n0, rfl⟩⟩)
 go_ret
 exact ⟨rfl, by repeat (with_reducible first | exact Below.refl _ _ | apply xaA | apply xaC | apply xaB | refine xaF ?_ (by simp))⟩
set_option maxHeartbeats 2000000 in
set_option maxRecDepth 100000 in
theorem fit_3n3 (a4 a5 a6 a7 a8 : Int) (w : World) (g6 : decide (1900 ≤ a6 ∧ a6 ≤ 2199) = true) (g7 : decide (a6 ≤ a7 ∧ a7 ≤ 2199) = true) (g8 : decide (0 ≤ a8 ∧ a8 ≤ 2) = true) (hz : ¬ a4 = 0) : Calls Try.prog 85 #[.agg #[.int .i64 3, .int .i64 0, .int .i64 0, .int .i64 0, .int .i64 a4, .int .i64 a5, .int .i64 a6, .int .i64 a7, .int .i64 a8]] w (Fits false w) := by
 have kz : (a4 == 0) = false := by simpa using hz
 clear hz
 go_enter Try.func85, Try.ntmps85
 go_wp2_with (go_at_call 79; refine (xbU _ _ _ _ (by assumption) _).mono ?_; rintro e w' ⟨rfl, ⟨n0, rfl⟩⟩)
 go_ret
 exact ⟨rfl, by repeat (with_reducible first | exact Below.refl _ _ | apply xaA | apply xaC | apply xaB | refine xaF ?_ (by simp))⟩
set_option maxHeartbeats 2000000 in
set_option maxRecDepth 100000 in
theorem fit_3c0 (a5 a6 a7 a8 : Int) (w : World) (g6 : decide (1900 ≤ a6 ∧ a6 ≤ 2199) = true) (g7 : decide (a6 ≤ a7 ∧ a7 ≤ 2199) = true) (g8 : decide (0 ≤ a8 ∧ a8 ≤ 2) = true)  (c0 : decide (-100 ≤ a5 ∧ a5 ≤ 100) = false) : Calls Try.prog 85 #[.agg #[.int .i64 3, .int .i64 0, .int .i64 0, .int .i64 0, .int .i64 0, .int .i64 a5, .int .i64 a6, .int .i64 a7, .int .i64 a8]] w (Fits false w) := by
 go_enter Try.func85, Try.ntmps85
 go_wp2_with (go_at_call 79; refine (xbU _ _ _ _ (by assumption) _).mono ?_; rintro e w' ⟨rfl, ⟨n0, rfl⟩⟩)
 go_ret
 exact ⟨rfl, by repeat (with_reducible first | exact Below.refl _ _ | apply xaA | apply xaC | apply xaB | refine xaF ?_ (by simp))⟩
set_option maxHeartbeats 2000000 in
set_option maxRecDepth 100000 in
theorem fit_3c1 (a5 a6 a7 a8 : Int) (w : World) (g6 : decide (1900 ≤ a6 ∧ a6 ≤ 2199) = true) (g7 : decide (a6 ≤ a7 ∧ a7 ≤ 2199) = true) (g8 : decide (0 ≤ a8 ∧ a8 ≤ 2) = true) (c0 : decide (-100 ≤ a5 ∧ a5 ≤ 100) = true) : Calls Try.prog 85 #[.agg #[.int .i64 3, .int .i64 0, .int .i64 0, .int .i64 0, .int .i64 0, .int .i64 a5, .int .i64 a6, .int .i64 a7, .int .i64 a8]] w (Fits true w) := by
 go_enter Try.func85, Try.ntmps85
 go_wp2_with (go_at_call 79; refine (xbU _ _ _ _ (by assumption) _).mono ?_; rintro e w' ⟨rfl, ⟨n0, rfl⟩⟩)
 go_ret
 exact ⟨rfl, by repeat (with_reducible first | exact Below.refl _ _ | apply xaA | apply xaC | apply xaB | refine xaF ?_ (by simp))⟩
set_option maxHeartbeats 2000000 in
set_option maxRecDepth 100000 in
theorem fit_1n0 (a1 a2 a3 a4 a5 a6 a7 a8 : Int) (w : World) (g6 : decide (1900 ≤ a6 ∧ a6 ≤ 2199) = true) (g7 : decide (a6 ≤ a7 ∧ a7 ≤ 2199) = true) (g8 : decide (0 ≤ a8 ∧ a8 ≤ 2) = true) (hz : ¬ a3 = 0) : Calls Try.prog 85 #[.agg #[.int .i64 1, .int .i64 a1, .int .i64 a2, .int .i64 a3, .int .i64 a4, .int .i64 a5, .int .i64 a6, .int .i64 a7, .int .i64 a8]] w (Fits false w) := by
 have kz : (a3 == 0) = false := by simpa using hz
 clear hz
 go_enter Try.func85, Try.ntmps85
 go_wp2_with (go_at_call 79; refine (xbU _ _ _ _ (by assumption) _).mono ?_; rintro e w' ⟨rfl, ⟨n0, rfl⟩⟩)
 go_quiet ((go_at_call 79; exact Calls.quiet_of ((xbU _ _ _ _ (by assumption) _).mono fun _ _ h => ⟨h.1, h.2.out⟩)))
 go_wp2_with fail
 go_ret
 exact ⟨rfl, by repeat (with_reducible first | exact Below.refl _ _ | apply xaA | apply xaC | apply xaB | refine xaF ?_ (by simp))⟩
set_option maxHeartbeats 2000000 in
set_option maxRecDepth 100000 in
theorem fit_1n1 (a1 a2 a4 a5 a6 a7 a8 : Int) (w : World) (g6 : decide (1900 ≤ a6 ∧ a6 ≤ 2199) = true) (g7 : decide (a6 ≤ a7 ∧ a7 ≤ 2199) = true) (g8 : decide (0 ≤ a8 ∧ a8 ≤ 2) = true) (hz : ¬ a4 = 0) : Calls Try.prog 85 #[.agg #[.int .i64 1, .int .i64 a1, .int .i64 a2, .int .i64 0, .int .i64 a4, .int .i64 a5, .int .i64 a6, .int .i64 a7, .int .i64 a8]] w (Fits false w) := by
 have kz : (a4 == 0) = false := by simpa using hz
 clear hz
 go_enter Try.func85, Try.ntmps85
 go_wp2_with (go_at_call 79; refine (xbU _ _ _ _ (by assumption) _).mono ?_; rintro e w' ⟨rfl, ⟨n0, rfl⟩⟩)
 go_quiet ((go_at_call 79; exact Calls.quiet_of ((xbU _ _ _ _ (by assumption) _).mono fun _ _ h => ⟨h.1, h.2.out⟩)))
 go_wp2_with fail
 go_ret
 exact ⟨rfl, by repeat (with_reducible first | exact Below.refl _ _ | apply xaA | apply xaC | apply xaB | refine xaF ?_ (by simp))⟩
set_option maxHeartbeats 2000000 in
set_option maxRecDepth 100000 in
theorem fit_1n2 (a1 a2 a5 a6 a7 a8 : Int) (w : World) (g6 : decide (1900 ≤ a6 ∧ a6 ≤ 2199) = true) (g7 : decide (a6 ≤ a7 ∧ a7 ≤ 2199) = true) (g8 : decide (0 ≤ a8 ∧ a8 ≤ 2) = true) (hz : ¬ a5 = 0) : Calls Try.prog 85 #[.agg #[.int .i64 1, .int .i64 a1, .int .i64 a2, .int .i64 0, .int .i64 0, .int .i64 a5, .int .i64 a6, .int .i64 a7, .int .i64 a8]] w (Fits false w) := by
 have kz : (a5 == 0) = false := by simpa using hz
 clear hz
 go_enter Try.func85, Try.ntmps85
 go_wp2_with (go_at_call 79; refine (xbU _ _ _ _ (by assumption) _).mono ?_; rintro e w' ⟨rfl, ⟨n0, rfl⟩⟩)
 go_quiet ((go_at_call 79; exact Calls.quiet_of ((xbU _ _ _ _ (by assumption) _).mono fun _ _ h => ⟨h.1, h.2.out⟩)))
 go_wp2_with fail
 go_ret
 exact ⟨rfl, by repeat (with_reducible first | exact Below.refl _ _ | apply xaA | apply xaC | apply xaB | refine xaF ?_ (by simp))⟩
set_option maxHeartbeats 2000000 in
set_option maxRecDepth 100000 in
theorem fit_1c0 (a1 a2 a6 a7 a8 : Int) (w : World) (g6 : decide (1900 ≤ a6 ∧ a6 ≤ 2199) = true) (g7 : decide (a6 ≤ a7 ∧ a7 ≤ 2199) = true) (g8 : decide (0 ≤ a8 ∧ a8 ≤ 2) = true) (c0 : decide (1 ≤ a1 ∧ a1 ≤ 12) = false) : Calls Try.prog 85 #[.agg #[.int .i64 1, .int .i64 a1, .int .i64 a2, .int .i64 0, .int .i64 0, .int .i64 0, .int .i64 a6, .int .i64 a7, .int .i64 a8]] w (Fits false w) := by
 go_enter Try.func85, Try.ntmps85
 go_wp2_with (go_at_call 79; refine (xbU _ _ _ _ (by assumption) _).mono ?_; rintro e w' ⟨rfl, ⟨n0, rfl⟩⟩)
 go_quiet ((go_at_call 79; exact Calls.quiet_of ((xbU _ _ _ _ (by assumption) _).mono fun _ _ h => ⟨h.1, h.2.out⟩)))
 go_wp2_with fail
 go_ret
 exact ⟨rfl, by repeat (with_reducible first | exact Below.refl _ _ | apply xaA | apply xaC | apply xaB | refine xaF ?_ (by simp))⟩
set_option maxHeartbeats 2000000 in
set_option maxRecDepth 100000 in
theorem fit_1m1 (a2 a6 a7 a8 : Int) (w : World) (g6 : decide (1900 ≤ a6 ∧ a6 ≤ 2199) = true) (g7 : decide (a6 ≤ a7 ∧ a7 ≤ 2199) = true) (g8 : decide (0 ≤ a8 ∧ a8 ≤ 2) = true) (b : Bool) (c1 : decide (1 ≤ a2 ∧ a2 ≤ 31) = b) : Calls Try.prog 85 #[.agg #[.int .i64 1, .int .i64 1, .int .i64 a2, .int .i64 0, .int .i64 0, .int .i64 0, .int .i64 a6, .int .i64 a7, .int .i64 a8]] w (Fits b w) := by
 have c0 : decide ((1 : Int) ≤ 1 ∧ (1 : Int) ≤ 12) = true := by decide
 go_enter Try.func85, Try.ntmps85
 go_wp2_with (go_at_call 79; refine (xbU _ _ _ _ (by assumption) _).mono ?_; rintro e w' ⟨rfl, ⟨n0, rfl⟩⟩)
 go_quiet ((go_at_call 79; exact Calls.quiet_of ((xbU _ _ _ _ (by assumption) _).mono fun _ _ h => ⟨h.1, h.2.out⟩)))
 go_wp2_with fail
 go_ret
 exact ⟨rfl, by repeat (with_reducible first | exact Below.refl _ _ | apply xaA | apply xaC | apply xaB | refine xaF ?_ (by simp))⟩
set_option maxHeartbeats 2000000 in
set_option maxRecDepth 100000 in
theorem fit_1m2 (a2 a6 a7 a8 : Int) (w : World) (g6 : decide (1900 ≤ a6 ∧ a6 ≤ 2199) = true) (g7 : decide (a6 ≤ a7 ∧ a7 ≤ 2199) = true) (g8 : decide (0 ≤ a8 ∧ a8 ≤ 2) = true) (b : Bool) (c1 : decide (1 ≤ a2 ∧ a2 ≤ 29) = b) : Calls Try.prog 85 #[.agg #[.int .i64 1, .int .i64 2, .int .i64 a2, .int .i64 0, .int .i64 0, .int .i64 0, .int .i64 a6, .int .i64 a7, .int .i64 a8]] w (Fits b w) := by
 have c0 : decide ((1 : Int) ≤ 2 ∧ (2 : Int) ≤ 12) = true := by decide
 go_enter Try.func85, Try.ntmps85
 go_wp2_with (go_at_call 79; refine (xbU _ _ _ _ (by assumption) _).mono ?_; rintro e w' ⟨rfl, ⟨n0, rfl⟩⟩)
 go_quiet ((go_at_call 79; exact Calls.quiet_of ((xbU _ _ _ _ (by assumption) _).mono fun _ _ h => ⟨h.1, h.2.out⟩)))
 go_wp2_with fail
 go_ret
 exact ⟨rfl, by repeat (with_reducible first | exact Below.refl _ _ | apply xaA | apply xaC | apply xaB | refine xaF ?_ (by simp))⟩
set_option maxHeartbeats 2000000 in
set_option maxRecDepth 100000 in
theorem fit_1m3 (a2 a6 a7 a8 : Int) (w : World) (g6 : decide (1900 ≤ a6 ∧ a6 ≤ 2199) = true) (g7 : decide (a6 ≤ a7 ∧ a7 ≤ 2199) = true) (g8 : decide (0 ≤ a8 ∧ a8 ≤ 2) = true) (b : Bool) (c1 : decide (1 ≤ a2 ∧ a2 ≤ 31) = b) : Calls Try.prog 85 #[.agg #[.int .i64 1, .int .i64 3, .int .i64 a2, .int .i64 0, .int .i64 0, .int .i64 0, .int .i64 a6, .int .i64 a7, .int .i64 a8]] w (Fits b w) := by
 have c0 : decide ((1 : Int) ≤ 3 ∧ (3 : Int) ≤ 12) = true := by decide
 go_enter Try.func85, Try.ntmps85
 go_wp2_with (go_at_call 79; refine (xbU _ _ _ _ (by assumption) _).mono ?_; rintro e w' ⟨rfl, ⟨n0, rfl⟩⟩)
 go_quiet ((go_at_call 79; exact Calls.quiet_of ((xbU _ _ _ _ (by assumption) _).mono fun _ _ h => ⟨h.1, h.2.out⟩)))
 go_wp2_with fail
 go_ret
 exact ⟨rfl, by repeat (with_reducible first | exact Below.refl _ _ | apply xaA | apply xaC | apply xaB | refine xaF ?_ (by simp))⟩
set_option maxHeartbeats 2000000 in
set_option maxRecDepth 100000 in
theorem fit_1m4 (a2 a6 a7 a8 : Int) (w : World) (g6 : decide (1900 ≤ a6 ∧ a6 ≤ 2199) = true) (g7 : decide (a6 ≤ a7 ∧ a7 ≤ 2199) = true) (g8 : decide (0 ≤ a8 ∧ a8 ≤ 2) = true) (b : Bool) (c1 : decide (1 ≤ a2 ∧ a2 ≤ 30) = b) : Calls Try.prog 85 #[.agg #[.int .i64 1, .int .i64 4, .int .i64 a2, .int .i64 0, .int .i64 0, .int .i64 0, .int .i64 a6, .int .i64 a7, .int .i64 a8]] w (Fits b w) := by
 have c0 : decide ((1 : Int) ≤ 4 ∧ (4 : Int) ≤ 12) = true := by decide
 go_enter Try.func85, Try.ntmps85
 go_wp2_with (go_at_call 79; refine (xbU _ _ _ _ (by assumption) _).mono ?_; rintro e w' ⟨rfl, ⟨n0, rfl⟩⟩)
 go_quiet ((go_at_call 79; exact Calls.quiet_of ((xbU _ _ _ _ (by assumption) _).mono fun _ _ h => ⟨h.1, h.2.out⟩)))
 go_wp2_with fail
 go_ret
 exact ⟨rfl, by repeat (with_reducible first | exact Below.refl _ _ | apply xaA | apply xaC | apply xaB | refine xaF ?_ (by simp))⟩
set_option maxHeartbeats 2000000 in
set_option maxRecDepth 100000 in
theorem fit_1m5 (a2 a6 a7 a8 : Int) (w : World) (g6 : decide (1900 ≤ a6 ∧ a6 ≤ 2199) = true) (g7 : decide (a6 ≤ a7 ∧ a7 ≤ 2199) = true) (g8 : decide (0 ≤ a8 ∧ a8 ≤ 2) = true) (b : Bool) (c1 : decide (1 ≤ a2 ∧ a2 ≤ 31) = b) : Calls Try.prog 85 #[.agg #[.int .i64 1, .int .i64 5, .int .i64 a2, .int .i64 0, .int .i64 0, .int .i64 0, .int .i64 a6, .int .i64 a7, .int .i64 a8]] w (Fits b w) := by
 have c0 : decide ((1 : Int) ≤ 5 ∧ (5 : Int) ≤ 12) = true := by decide
 go_enter Try.func85, Try.ntmps85
 go_wp2_with (go_at_call 79; refine (xbU _ _ _ _ (by assumption) _).mono ?_; rintro e w' ⟨rfl, ⟨n0, rfl⟩⟩)
 go_quiet ((go_at_call 79; exact Calls.quiet_of ((xbU _ _ _ _ (by assumption) _).mono fun _ _ h => ⟨h.1, h.2.out⟩)))
 go_wp2_with fail
 go_ret
 exact ⟨rfl, by repeat (with_reducible first | exact Below.refl _ _ | apply xaA | apply xaC | apply xaB | refine xaF ?_ (by simp))⟩
set_option maxHeartbeats 2000000 in
set_option maxRecDepth 100000 in
theorem fit_1m6 (a2 a6 a7 a8 : Int) (w : World) (g6 : decide (1900 ≤ a6 ∧ a6 ≤ 2199) = true) (g7 : decide (a6 ≤ a7 ∧ a7 ≤ 2199) = true) (g8 : decide (0 ≤ a8 ∧ a8 ≤ 2) = true) (b : Bool) (c1 : decide (1 ≤ a2 ∧ a2 ≤ 30) = b) : Calls Try.prog 85 #[.agg #[.int .i64 1, .int .i64 6, .int .i64 a2, .int .i64 0, .int .i64 0, .int .i64 0, .int .i64 a6, .int .i64 a7, .int .i64 a8]] w (Fits b w) := by
 have c0 : decide ((1 : Int) ≤ 6 ∧ (6 : Int) ≤ 12) = true := by decide
 go_enter Try.func85, Try.ntmps85
 go_wp2_with (go_at_call 79; refine (xbU _ _ _ _ (by assumption) _).mono ?_; rintro e w' ⟨rfl, ⟨n0, rfl⟩⟩)
 go_quiet ((go_at_call 79; exact Calls.quiet_of ((xbU _ _ _ _ (by assumption) _).mono fun _ _ h => ⟨h.1, h.2.out⟩)))
 go_wp2_with fail
 go_ret
 exact ⟨rfl, by repeat (with_reducible first | exact Below.refl _ _ | apply xaA | apply xaC | apply xaB | refine xaF ?_ (by simp))⟩
set_option maxHeartbeats 2000000 in
set_option maxRecDepth 100000 in
theorem fit_1m7 (a2 a6 a7 a8 : Int) (w : World) (g6 : decide (1900 ≤ a6 ∧ a6 ≤ 2199) = true) (g7 : decide (a6 ≤ a7 ∧ a7 ≤ 2199) = true) (g8 : decide (0 ≤ a8 ∧ a8 ≤ 2) = true) (b : Bool) (c1 : decide (1 ≤ a2 ∧ a2 ≤ 31) = b) : Calls Try.prog 85 #[.agg #[.int .i64 1, .int .i64 7, .int .i64 a2, .int .i64 0, .int .i64 0, .int .i64 0, .int .i64 a6, .int .i64 a7, .int .i64 a8]] w (Fits b w) := by
 have c0 : decide ((1 : Int) ≤ 7 ∧ (7 : Int) ≤ 12) = true := by decide
 go_enter Try.func85, Try.ntmps85
 go_wp2_with (go_at_call 79; refine (xbU _ _ _ _ (by assumption) _).mono ?_; rintro e w' ⟨rfl, ⟨n0, rfl⟩⟩)
 go_quiet ((go_at_call 79; exact Calls.quiet_of ((xbU _ _ _ _ (by assumption) _).mono fun _ _ h => ⟨h.1, h.2.out⟩)))
 go_wp2_with fail
 go_ret
 exact ⟨rfl, by repeat (with_reducible first | exact Below.refl _ _ | apply xaA | apply xaC | apply xaB | refine xaF ?_ (by simp))⟩
set_option maxHeartbeats 2000000 in
set_option maxRecDepth 100000 in
theorem fit_1m8 (a2 a6 a7 a8 : Int) (w : World) (g6 : decide (1900 ≤ a6 ∧ a6 ≤ 2199) = true) (g7 : decide (a6 ≤ a7 ∧ a7 ≤ 2199) = true) (g8 : decide (0 ≤ a8 ∧ a8 ≤ 2) = true) (b : Bool) (c1 : decide (1 ≤ a2 ∧ a2 ≤ 31) = b) : Calls Try.prog 85 #[.agg #[.int .i64 1, .int .i64 8, .int .i64 a2, .int .i64 0, .int .i64 0, .int .i64 0, .int .i64 a6, .int .i64 a7, .int .i64 a8]] w (Fits b w) := by
 have c0 : decide ((1 : Int) ≤ 8 ∧ (8 : Int) ≤ 12) = true := by decide
 go_enter Try.func85, Try.ntmps85
 go_wp2_with (go_at_call 79; refine (xbU _ _ _ _ (by assumption) _).mono ?_; rintro e w' ⟨rfl, ⟨n0, rfl⟩⟩)
 go_quiet ((go_at_call 79; exact Calls.quiet_of ((xbU _ _ _ _ (by assumption) _).mono fun _ _ h => ⟨h.1, h.2.out⟩)))
 go_wp2_with fail
 go_ret
 exact ⟨rfl, by repeat (with_reducible first | exact Below.refl _ _ | apply xaA | apply xaC | apply xaB | refine xaF ?_ (by simp))⟩
set_option maxHeartbeats 2000000 in
set_option maxRecDepth 100000 in
theorem fit_1m9 (a2 a6 a7 a8 : Int) (w : World) (g6 : decide (1900 ≤ a6 ∧ a6 ≤ 2199) = true) (g7 : decide (a6 ≤ a7 ∧ a7 ≤ 2199) = true) (g8 : decide (0 ≤ a8 ∧ a8 ≤ 2) = true) (b : Bool) (c1 : decide (1 ≤ a2 ∧ a2 ≤ 30) = b) : Calls Try.prog 85 #[.agg #[.int .i64 1, .int .i64 9, .int .i64 a2, .int .i64 0, .int .i64 0, .int .i64 0, .int .i64 a6, .int .i64 a7, .int .i64 a8]] w (Fits b w) := by
 have c0 : decide ((1 : Int) ≤ 9 ∧ (9 : Int) ≤ 12) = true := by decide
 go_enter Try.func85, Try.ntmps85
 go_wp2_with (go_at_call 79; refine (xbU _ _ _ _ (by assumption) _).mono ?_; rintro e w' ⟨rfl, ⟨n0, rfl⟩⟩)
 go_quiet ((go_at_call 79; exact Calls.quiet_of ((xbU _ _ _ _ (by assumption) _).mono fun _ _ h => ⟨h.1, h.2.out⟩)))
 go_wp2_with fail
 go_ret
 exact ⟨rfl, by repeat (with_reducible first | exact Below.refl _ _ | apply xaA | apply xaC | apply xaB | refine xaF ?_ (by simp))⟩
set_option maxHeartbeats 2000000 in
set_option maxRecDepth 100000 in
theorem fit_1m10 (a2 a6 a7 a8 : Int) (w : World) (g6 : decide (1900 ≤ a6 ∧ a6 ≤ 2199) = true) (g7 : decide (a6 ≤ a7 ∧ a7 ≤ 2199) = true) (g8 : decide (0 ≤ a8 ∧ a8 ≤ 2) = true) (b : Bool) (c1 : decide (1 ≤ a2 ∧ a2 ≤ 31) = b) : Calls Try.prog 85 #[.agg #[.int .i64 1, .int .i64 10, .int .i64 a2, .int .i64 0, .int .i64 0, .int .i64 0, .int .i64 a6, .int .i64 a7, .int .i64 a8]] w (Fits b w) := by
 have c0 : decide ((1 : Int) ≤ 10 ∧ (10 : Int) ≤ 12) = true := by decide
 go_enter Try.func85, Try.ntmps85
 go_wp2_with (go_at_call 79; refine (xbU _ _ _ _ (by assumption) _).mono ?_; rintro e w' ⟨rfl, ⟨n0, rfl⟩⟩)
 go_quiet ((go_at_call 79; exact Calls.quiet_of ((xbU _ _ _ _ (by assumption) _).mono fun _ _ h => ⟨h.1, h.2.out⟩)))
 go_wp2_with fail
 go_ret
 exact ⟨rfl, by repeat (with_reducible first | exact Below.refl _ _ | apply xaA | apply xaC | apply xaB | refine xaF ?_ (by simp))⟩
set_option maxHeartbeats 2000000 in
set_option maxRecDepth 100000 in
theorem fit_1m11 (a2 a6 a7 a8 : Int) (w : World) (g6 : decide (1900 ≤ a6 ∧ a6 ≤ 2199) = true) (g7 : decide (a6 ≤ a7 ∧ a7 ≤ 2199) = true) (g8 : decide (0 ≤ a8 ∧ a8 ≤ 2) = true) (b : Bool) (c1 : decide (1 ≤ a2 ∧ a2 ≤ 30) = b) : Calls Try.prog 85 #[.agg #[.int .i64 1, .int .i64 11, .int .i64 a2, .int .i64 0, .int .i64 0, .int .i64 0, .int .i64 a6, .int .i64 a7, .int .i64 a8]] w (Fits b w) := by
 have c0 : decide ((1 : Int) ≤ 11 ∧ (11 : Int) ≤ 12) = true := by decide
 go_enter Try.func85, Try.ntmps85
 go_wp2_with (go_at_call 79; refine (xbU _ _ _ _ (by assumption) _).mono ?_; rintro e w' ⟨rfl, ⟨n0, rfl⟩⟩)
 go_quiet ((go_at_call 79; exact Calls.quiet_of ((xbU _ _ _ _ (by assumption) _).mono fun _ _ h => ⟨h.1, h.2.out⟩)))
 go_wp2_with fail
 go_ret
 exact ⟨rfl, by repeat (with_reducible first | exact Below.refl _ _ | apply xaA | apply xaC | apply xaB | refine xaF ?_ (by simp))⟩
set_option maxHeartbeats 2000000 in
set_option maxRecDepth 100000 in
theorem fit_1m12 (a2 a6 a7 a8 : Int) (w : World) (g6 : decide (1900 ≤ a6 ∧ a6 ≤ 2199) = true) (g7 : decide (a6 ≤ a7 ∧ a7 ≤ 2199) = true) (g8 : decide (0 ≤ a8 ∧ a8 ≤ 2) = true) (b : Bool) (c1 : decide (1 ≤ a2 ∧ a2 ≤ 31) = b) : Calls Try.prog 85 #[.agg #[.int .i64 1, .int .i64 12, .int .i64 a2, .int .i64 0, .int .i64 0, .int .i64 0, .int .i64 a6, .int .i64 a7, .int .i64 a8]] w (Fits b w) := by
 have c0 : decide ((1 : Int) ≤ 12 ∧ (12 : Int) ≤ 12) = true := by decide
 go_enter Try.func85, Try.ntmps85
 go_wp2_with (go_at_call 79; refine (xbU _ _ _ _ (by assumption) _).mono ?_; rintro e w' ⟨rfl, ⟨n0, rfl⟩⟩)
 go_quiet ((go_at_call 79; exact Calls.quiet_of ((xbU _ _ _ _ (by assumption) _).mono fun _ _ h => ⟨h.1, h.2.out⟩)))
 go_wp2_with fail
 go_ret
 exact ⟨rfl, by repeat (with_reducible first | exact Below.refl _ _ | apply xaA | apply xaC | apply xaB | refine xaF ?_ (by simp))⟩
theorem not_years {a0 a1 a2 a3 a4 a5 a6 a7 a8 : Int} (h4 : ¬ a0 = 4) (h : ¬ (1900 ≤ a6 ∧ a6 ≤ 2199 ∧ a6 ≤ a7 ∧ a7 ≤ 2199 ∧ 0 ≤ a8 ∧ a8 ≤ 2)) : M.may ⟨a0, a1, a2, a3, a4, a5, a6, a7, a8⟩ = false := by
 have hy : M.xfA ⟨a0, a1, a2, a3, a4, a5, a6, a7, a8⟩ = false := decide_eq_false h
 unfold M.may
 simp only [hy, Bool.and_false, h4, if_false]
 repeat' split
 all_goals rfl
theorem fit_calls (a0 a1 a2 a3 a4 a5 a6 a7 a8 : Int) (w : World) :
  Calls Try.prog 85 #[.agg #[.int .i64 a0, .int .i64 a1, .int .i64 a2, .int .i64 a3, .int .i64 a4, .int .i64 a5, .int .i64 a6, .int .i64 a7, .int .i64 a8]] w (Fits (M.may ⟨a0, a1, a2, a3, a4, a5, a6, a7, a8⟩) w) := by
 by_cases k4 : a0 = 4
 ·
  subst k4
  by_cases z1 : a1 = 0
  rotate_left
  ·
   rw [show M.may ⟨4, a1, a2, a3, a4, a5, a6, a7, a8⟩ = false by simp [M.may, z1]]; exact fit_4n0 _ _ _ _ _ _ _ _ w z1
  subst z1
  by_cases z3 : a3 = 0
  rotate_left
  ·
   rw [show M.may ⟨4, 0, a2, a3, a4, a5, a6, a7, a8⟩ = false by simp [M.may, z3]]; exact fit_4n1 _ _ _ _ _ _ _ w z3
  subst z3
  by_cases z4 : a4 = 0
  rotate_left
  ·
   rw [show M.may ⟨4, 0, a2, 0, a4, a5, a6, a7, a8⟩ = false by simp [M.may, z4]]; exact fit_4n2 _ _ _ _ _ _ w z4
  subst z4
  by_cases z5 : a5 = 0
  rotate_left
  ·
   rw [show M.may ⟨4, 0, a2, 0, 0, a5, a6, a7, a8⟩ = false by simp [M.may, z5]]; exact fit_4n3 _ _ _ _ _ w z5
  subst z5
  by_cases z6 : a6 = 0
  rotate_left
  ·
   rw [show M.may ⟨4, 0, a2, 0, 0, 0, a6, a7, a8⟩ = false by simp [M.may, z6]]; exact fit_4n4 _ _ _ _ w z6
  subst z6
  by_cases z7 : a7 = 0
  rotate_left
  ·
   rw [show M.may ⟨4, 0, a2, 0, 0, 0, 0, a7, a8⟩ = false by simp [M.may, z7]]; exact fit_4n5 _ _ _ w z7
  subst z7
  by_cases z8 : a8 = 0
  rotate_left
  ·
   rw [show M.may ⟨4, 0, a2, 0, 0, 0, 0, 0, a8⟩ = false by simp [M.may, z8]]; exact fit_4n6 _ _ w z8
  subst z8
  exact fit_4 _ _ _ _ _ _ _ _ w _ (by simp [M.may]) ⟨rfl, rfl, rfl, rfl, rfl, rfl, rfl⟩
 by_cases hy : 1900 ≤ a6 ∧ a6 ≤ 2199 ∧ a6 ≤ a7 ∧ a7 ≤ 2199 ∧ 0 ≤ a8 ∧ a8 ≤ 2
 rotate_left
 ·
  rw [not_years k4 hy]; exact fit_y _ _ _ _ _ _ _ _ _ w k4 hy
 have hyo : decide (1900 ≤ a6 ∧ a6 ≤ 2199 ∧ a6 ≤ a7 ∧ a7 ≤ 2199 ∧ 0 ≤ a8 ∧ a8 ≤ 2) = true := decide_eq_true hy
 have g6 := decide_eq_true (show 1900 ≤ a6 ∧ a6 ≤ 2199 from ⟨hy.1, hy.2.1⟩)
 have g7 := decide_eq_true (show a6 ≤ a7 ∧ a7 ≤ 2199 from ⟨hy.2.2.1, hy.2.2.2.1⟩)
 have g8 := decide_eq_true (show 0 ≤ a8 ∧ a8 ≤ 2 from hy.2.2.2.2)
 by_cases k1 : a0 = 1
 ·
  subst k1
  by_cases z3 : a3 = 0
  rotate_left
  ·
   rw [show M.may ⟨1, a1, a2, a3, a4, a5, a6, a7, a8⟩ = false by simp [M.may, z3]]; exact fit_1n0 _ _ _ _ _ _ _ _ w g6 g7 g8 z3
  subst z3
  by_cases z4 : a4 = 0
  rotate_left
  ·
   rw [show M.may ⟨1, a1, a2, 0, a4, a5, a6, a7, a8⟩ = false by simp [M.may, z4]]; exact fit_1n1 _ _ _ _ _ _ _ w g6 g7 g8 z4
  subst z4
  by_cases z5 : a5 = 0
  rotate_left
  ·
   rw [show M.may ⟨1, a1, a2, 0, 0, a5, a6, a7, a8⟩ = false by simp [M.may, z5]]; exact fit_1n2 _ _ _ _ _ _ w g6 g7 g8 z5
  subst z5
  by_cases hm : 1 ≤ a1 ∧ a1 ≤ 12
  rotate_left
  ·
   rw [show M.may ⟨1, a1, a2, 0, 0, 0, a6, a7, a8⟩ = false by unfold M.may; rw [if_pos rfl]; rw [Bool.and_eq_false_iff]; left; rw [decide_eq_false_iff_not]; simp only; omega]
   exact fit_1c0 _ _ _ _ _ w g6 g7 g8 (decide_eq_false hm)
  have hv : ∀ {p : Prop} [Decidable p], p → M.may ⟨1, a1, a2, 0, 0, 0, a6, a7, a8⟩ = decide (1 ≤ a2 ∧ a2 ≤ M.mlen 2000 a1) := by
   intro p _ _
   show (decide (1 ≤ a1 ∧ a1 ≤ 12 ∧ (0 : Int) = 0 ∧ (0 : Int) = 0 ∧ (0 : Int) = 0 ∧ 1 ≤ a2 ∧ a2 ≤ M.mlen 2000 a1) && decide (1900 ≤ a6 ∧ a6 ≤ 2199 ∧ a6 ≤ a7 ∧ a7 ≤ 2199 ∧ 0 ≤ a8 ∧ a8 ≤ 2)) = _
   rw [hyo, Bool.and_true, decide_eq_decide]
   exact ⟨fun h => ⟨h.2.2.2.2.2.1, h.2.2.2.2.2.2⟩, fun h => ⟨hm.1, hm.2, rfl, rfl, rfl, h.1, h.2⟩⟩
  rw [hv trivial]
  have h12 : a1 = 1 ∨ a1 = 2 ∨ a1 = 3 ∨ a1 = 4 ∨ a1 = 5 ∨ a1 = 6 ∨ a1 = 7 ∨ a1 = 8 ∨ a1 = 9 ∨ a1 = 10 ∨ a1 = 11 ∨ a1 = 12 := by omega
  rcases h12 with rfl | rfl | rfl | rfl | rfl | rfl | rfl | rfl | rfl | rfl | rfl | rfl
  ·
   exact fit_1m1 _ _ _ _ w g6 g7 g8 _ rfl
  ·
   exact fit_1m2 _ _ _ _ w g6 g7 g8 _ rfl
  ·
   exact fit_1m3 _ _ _ _ w g6 g7 g8 _ rfl
  ·
   exact fit_1m4 _ _ _ _ w g6 g7 g8 _ rfl
  ·
   exact fit_1m5 _ _ _ _ w g6 g7 g8 _ rfl
  ·
   exact fit_1m6 _ _ _ _ w g6 g7 g8 _ rfl
  ·
   exact fit_1m7 _ _ _ _ w g6 g7 g8 _ rfl
  ·
   exact fit_1m8 _ _ _ _ w g6 g7 g8 _ rfl
  ·
   exact fit_1m9 _ _ _ _ w g6 g7 g8 _ rfl
  ·
   exact fit_1m10 _ _ _ _ w g6 g7 g8 _ rfl
  ·
   exact fit_1m11 _ _ _ _ w g6 g7 g8 _ rfl
  ·
   exact fit_1m12 _ _ _ _ w g6 g7 g8 _ rfl
 by_cases k2 : a0 = 2
 ·
  subst k2
  have no : ∀ {q : Prop} [Decidable q], ¬ q → (decide q && M.xfA ⟨2, a1, a2, a3, a4, a5, a6, a7, a8⟩) = false := by intro q _ h; simp [h]
  have hv : M.may ⟨2, a1, a2, a3, a4, a5, a6, a7, a8⟩ = (decide (a2 = 0 ∧ a5 = 0 ∧ 1 ≤ a1 ∧ a1 ≤ 12 ∧ 0 ≤ a4 ∧ a4 ≤ 6 ∧ 1 ≤ a3 ∧ a3 ≤ 5) && M.xfA ⟨2, a1, a2, a3, a4, a5, a6, a7, a8⟩) := rfl
  rw [hv]
  by_cases z2 : a2 = 0
  rotate_left
  ·
   rw [no (by omega)]; exact fit_2n0 _ _ _ _ _ _ _ _ w g6 g7 g8 z2
  subst z2
  by_cases z5 : a5 = 0
  rotate_left
  ·
   rw [no (by omega)]; exact fit_2n1 _ _ _ _ _ _ _ w g6 g7 g8 z5
  subst z5
  by_cases c1 : 1 ≤ a1 ∧ a1 ≤ 12
  rotate_left
  ·
   rw [no (by omega)]; exact fit_2c0 _ _ _ _ _ _ w g6 g7 g8 (decide_eq_false c1)
  by_cases c4 : 0 ≤ a4 ∧ a4 ≤ 6
  rotate_left
  ·
   rw [no (by omega)]; exact fit_2c1 _ _ _ _ _ _ w g6 g7 g8 (decide_eq_true c1) (decide_eq_false c4)
  by_cases c3 : 1 ≤ a3 ∧ a3 ≤ 5
  rotate_left
  ·
   rw [no (by omega)]; exact fit_2c2 _ _ _ _ _ _ w g6 g7 g8 (decide_eq_true c1) (decide_eq_true c4) (decide_eq_false c3)
  rw [show (decide ((0 : Int) = 0 ∧ (0 : Int) = 0 ∧ 1 ≤ a1 ∧ a1 ≤ 12 ∧ 0 ≤ a4 ∧ a4 ≤ 6 ∧ 1 ≤ a3 ∧ a3 ≤ 5) && M.xfA ⟨2, a1, 0, a3, a4, 0, a6, a7, a8⟩) = true by rw [Bool.and_eq_true]; exact ⟨decide_eq_true (by omega), hyo⟩]
  exact fit_2c3 _ _ _ _ _ _ w g6 g7 g8 (decide_eq_true c1) (decide_eq_true c4) (decide_eq_true c3)
 by_cases k3 : a0 = 3
 ·
  subst k3
  have no : ∀ {q : Prop} [Decidable q], ¬ q → (decide q && M.xfA ⟨3, a1, a2, a3, a4, a5, a6, a7, a8⟩) = false := by intro q _ h; simp [h]
  have hv : M.may ⟨3, a1, a2, a3, a4, a5, a6, a7, a8⟩ = (decide (a1 = 0 ∧ a2 = 0 ∧ a3 = 0 ∧ a4 = 0 ∧ -100 ≤ a5 ∧ a5 ≤ 100) && M.xfA ⟨3, a1, a2, a3, a4, a5, a6, a7, a8⟩) := rfl
  rw [hv]
  by_cases z1 : a1 = 0
  rotate_left
  ·
   rw [no (by omega)]; exact fit_3n0 _ _ _ _ _ _ _ _ w g6 g7 g8 z1
  subst z1
  by_cases z2 : a2 = 0
  rotate_left
  ·
   rw [no (by omega)]; exact fit_3n1 _ _ _ _ _ _ _ w g6 g7 g8 z2
  subst z2
  by_cases z3 : a3 = 0
  rotate_left
  ·
   rw [no (by omega)]; exact fit_3n2 _ _ _ _ _ _ w g6 g7 g8 z3
  subst z3
  by_cases z4 : a4 = 0
  rotate_left
  ·
   rw [no (by omega)]; exact fit_3n3 _ _ _ _ _ w g6 g7 g8 z4
  subst z4
  by_cases c5 : -100 ≤ a5 ∧ a5 ≤ 100
  rotate_left
  ·
   rw [no (by omega)]; exact fit_3c0 _ _ _ _ w g6 g7 g8 (decide_eq_false c5)
  rw [show (decide ((0 : Int) = 0 ∧ (0 : Int) = 0 ∧ (0 : Int) = 0 ∧ (0 : Int) = 0 ∧ -100 ≤ a5 ∧ a5 ≤ 100) && M.xfA ⟨3, 0, 0, 0, 0, a5, a6, a7, a8⟩) = true by rw [Bool.and_eq_true]; exact ⟨decide_eq_true (by omega), hyo⟩]
  exact fit_3c1 _ _ _ _ w g6 g7 g8 (decide_eq_true c5)
 rw [show M.may ⟨a0, a1, a2, a3, a4, a5, a6, a7, a8⟩ = false by unfold M.may; simp only; rw [if_neg k1, if_neg k2, if_neg k3, if_neg k4]]
 exact fit_0 _ _ _ _ _ _ _ _ _ w g6 g7 g8 k1 k2 k3 k4
end Go.Proofs.Ytoncignjcgjhhaa.H
namespace Go.Proofs.Ytoncignjcgjhhaa.Q
open Go.RowKit Go.Proofs.YtoncignjcgjhhaaW.PrintWords Go.Proofs.YtoncignjcgjhhaaW.PrintLast Go.Proofs.YtoncignjcgjhhaaW.PrintMore
attribute [local go_sem] xcC xcB xcR xcQ xbX xbW xcF xcE   -- for this text's walks alone
def xfB.f (a0_0 : Int) (a0_1 : Int) (a0_2 : Int) (a0_3 : Int) (a0_4 : Int) (a0_5 : Int) (a0_6 : Int) (a0_7 : Int) (a0_8 : Int) : Option (Bool) := some (Go.Proofs.Ytoncignjcgjhhaa.M.may ⟨a0_0, a0_1, a0_2, a0_3, a0_4, a0_5, a0_6, a0_7, a0_8⟩)
theorem xfB.calls (a0_0 : Int) (a0_1 : Int) (a0_2 : Int) (a0_3 : Int) (a0_4 : Int) (a0_5 : Int) (a0_6 : Int) (a0_7 : Int) (a0_8 : Int) (r : Bool) (w : World) (h : xfB.f a0_0 a0_1 a0_2 a0_3 a0_4 a0_5 a0_6 a0_7 a0_8 = some r) :
  Calls Try.prog 85 #[.agg #[.int .i64 a0_0, .int .i64 a0_1, .int .i64 a0_2, .int .i64 a0_3, .int .i64 a0_4, .int .i64 a0_5, .int .i64 a0_6, .int .i64 a0_7, .int .i64 a0_8]] w fun e w' => e = .returned (.bool r) ∧ Below w.heap.size w w' := by
 have e := Option.some.inj h;have c := Go.Proofs.Ytoncignjcgjhhaa.H.fit_calls a0_0 a0_1 a0_2 a0_3 a0_4 a0_5 a0_6 a0_7 a0_8 w
 rw [e] at c
 exact c
end Go.Proofs.Ytoncignjcgjhhaa.Q
namespace Go.Proofs.Ytoncignjcgjhhaa.Q
open Go.RowKit Go.Proofs.YtoncignjcgjhhaaW.PrintWords Go.Proofs.YtoncignjcgjhhaaW.PrintLast Go.Proofs.YtoncignjcgjhhaaW.PrintMore
attribute [local go_sem] xcC xcB xcR xcQ xbX xbW xcF xcE   -- for this text's walks alone
def xbP.l0 : Nat → Int → Int → List (S63) → Option (Int × Int)
  | 0, _, _, _ => none
  | k + 1, x4, x186000, x186001 => if x4 < (x186001.length : Int) then (if 0 ≤ x4 then ((xfB.f ((rd_T63 x186001 x4).f0) ((rd_T63 x186001 x4).f1) ((rd_T63 x186001 x4).f2) ((rd_T63 x186001 x4).f3) ((rd_T63 x186001 x4).f4) ((rd_T63 x186001 x4).f5) ((rd_T63 x186001 x4).f6) ((rd_T63 x186001 x4).f7) ((rd_T63 x186001 x4).f8)).bind fun t188 => (if t188 = true then (xbP.l0 k (wrap64 (x4 + 1)) x186000 x186001) else (some (60, x4)))) else (none)) else (some (0, 0))
def xbP.f (k : Nat) (a0_0 : Int) (l0_1 : List (S63)) : Option (Int × Int) := if (l0_1.length : Int) > 64 then (some (2, 0)) else ((xdG.f a0_0 0 126).bind fun t186 => (if t186 = true then (xbP.l0 k 0 a0_0 l0_1) else (some (60, (-1)))))
set_option maxHeartbeats 8000000 in
set_option maxRecDepth 100000 in
theorem xbP.calls (k : Nat) (a0_0 : Int) (A0_1 : Option Addr) (c0_1 : Nat) (l0_1 : List (S63)) (r1 : Int) (r2 : Int) (w : World) (hr0_1 : Kd.C k63 w A0_1 l0_1.length l0_1) (hc0_1 : l0_1.length ≤ c0_1) (h : xbP.f k a0_0 l0_1 = some (r1, r2)) :
  Calls Try.prog 45 #[.agg #[.int .i64 a0_0, .slice A0_1 l0_1.length c0_1]] w fun e w' => e = .returned (.tuple #[.int .i64 r1, .int .i64 r2]) ∧ Below w.heap.size w w' := by
 have hu24 := Try.underlying24;have hu63 := Try.underlying63;have HR0_1 := Aside0.mk hr0_1;have HC0_1 := Aside0.mk hc0_1;clear hr0_1 hc0_1
 have HB := Aside0.mk (Below.refl w.heap.size w)
 have H : (if (l0_1.length : Int) > 64 then (some (2, 0)) else ((xdG.f a0_0 0 126).bind fun t186 => (if t186 = true then (xbP.l0 k 0 a0_0 l0_1) else (some (60, (-1)))))) = some (r1, r2) := h
 clear h
 by_cases c2 : (l0_1.length : Int) > 64
 ·
  rw [if_pos c2] at H
  have c2b0 : decide (64 < (l0_1.length : Int)) = true := decide_eq_true c2
  have c2b1 : decide (64 < l0_1.length) = true := decide_eq_true (by omega)
  clear c2
  simp only [Option.some.injEq, Prod.mk.injEq] at H
  obtain ⟨rfl, rfl⟩ := H
  go_enter Try.func45, Try.ntmps45
  go_wp2_with (first | ((with_reducible refine xbM (N := 1) rfl ?_); refine xbJ ?hg (N := 1) ?hd (cs := #[.int .i64 a0_0, .slice A0_1 l0_1.length c0_1]) (t := 24) ?hr ?_; (case hd => rfl); (case hg => rfl); (case hr => first | (go_simp; done) | (go_simp; rfl)); intro gb185 hg w3 hbox hb; have n0_ := Aside0.mk (xaP (by repeat (first | (with_reducible first | exact HB.out | apply xaB | apply xaA | apply xaC) | exact HB.out)) hb); have n1_ := Aside0.mk (hbox); have n2_ := Aside0.mk ((by rw [hg]; exact (xaR (by repeat (first | (with_reducible first | exact HB.out | apply xaB | apply xaA | apply xaC) | exact HB.out))) : w.heap.size ≤ gb185)); have n3_ := Aside0.mk ((by rw [hg]; exact (xaR (by repeat (first | (with_reducible first | exact HB.out | apply xaB | apply xaA | apply xaC) | exact HB.out))) : w.heap.size ≤ gb185)); clear HB; have HB := n0_; have BK185 := n1_; have GW185 := n2_; have GE185 := n3_; clear n0_ n1_ n2_ n3_; clear hb hbox hg; have hcz4_0 : w3.cell? ⟨gb185, 0, none⟩ = some (.int .i64 a0_0) := (xaE BK185.out 0).trans rfl; have hcz4_1 : w3.cell? ⟨gb185, 1, none⟩ = some (.slice A0_1 l0_1.length c0_1) := (xaE BK185.out 1).trans rfl; have hfz4_0 := xaD BK185.out 0; have hfz4_1 := xaD BK185.out 1))
  go_ret2
  exact ⟨by first | rfl | (simp [xaL, xaK] <;> rfl) | (simp [*, xaL, xaK] <;> rfl), by repeat (first | (with_reducible first | exact HB.out | apply xaB | apply xaA | apply xaC | refine xaF ?_ GE185.out) | exact HB.out)⟩
 ·
  rw [if_neg c2] at H
  have c2b0 : decide (64 < (l0_1.length : Int)) = false := decide_eq_false c2
  have c2b1 : decide (64 < l0_1.length) = false := decide_eq_false (by omega)
  clear c2;replace H := Option.bind_eq_some_iff.mp H
  obtain ⟨t186, A50, H⟩ := H
  replace H : (if t186 = true then (xbP.l0 k 0 a0_0 l0_1) else (some (60, (-1)))) = some (r1, r2) := H
  have A5 := Aside0.mk A50;clear A50
  by_cases c6 : t186 = true
  ·
   subst c6
   have H1 : (xbP.l0 k 0 a0_0 l0_1) = some (r1, r2) := by rw [if_pos rfl] at H; exact H
   clear H;have H := H1;clear H1;have H' := Aside0.mk H;clear H
   go_enter Try.func45, Try.ntmps45
   go_wp2_with (first | ((with_reducible refine xbM (N := 1) rfl ?_); refine xbJ ?hg (N := 1) ?hd (cs := #[.int .i64 a0_0, .slice A0_1 l0_1.length c0_1]) (t := 24) ?hr ?_; (case hd => rfl); (case hg => rfl); (case hr => first | (go_simp; done) | (go_simp; rfl)); intro gb185 hg w7 hbox hb; have n0_ := Aside0.mk (xaP (by repeat (first | (with_reducible first | exact HB.out | apply xaB | apply xaA | apply xaC) | exact HB.out)) hb); have n1_ := Aside0.mk (hbox); have n2_ := Aside0.mk ((by rw [hg]; exact (xaR (by repeat (first | (with_reducible first | exact HB.out | apply xaB | apply xaA | apply xaC) | exact HB.out))) : w.heap.size ≤ gb185)); have n3_ := Aside0.mk ((by rw [hg]; exact (xaR (by repeat (first | (with_reducible first | exact HB.out | apply xaB | apply xaA | apply xaC) | exact HB.out))) : w.heap.size ≤ gb185)); clear HB; have HB := n0_; have BK185 := n1_; have GW185 := n2_; have GE185 := n3_; clear n0_ n1_ n2_ n3_; clear hb hbox hg; have hcz8_0 : w7.cell? ⟨gb185, 0, none⟩ = some (.int .i64 a0_0) := (xaE BK185.out 0).trans rfl; have hcz8_1 : w7.cell? ⟨gb185, 1, none⟩ = some (.slice A0_1 l0_1.length c0_1) := (xaE BK185.out 1).trans rfl; have hfz8_0 := xaD BK185.out 0; have hfz8_1 := xaD BK185.out 1) | ((with_reducible refine xaQ (f := 79) rfl ?_); refine goesL_ (some 11) rfl rfl Try.func79 (by kernel_rfl) rfl #[.int .i64 a0_0, .int .i64 0, .int .i64 126] rfl (by (try simp only [List.map_toArray, List.map_cons, List.map_nil]); first | done | rfl | (simp only [List.length_drop, List.length_take]; rfl)) ?_; (with_reducible refine (xdG.calls a0_0 0 126 true _ A5.out).mono ?_); rintro e w' ⟨rfl, ⟨nd, rfl⟩⟩; refine ⟨_, rfl, ?_⟩))
   go_loopg [4] k (fun kq v4 w' => ∃ (x4_1 : Int), v4 = .int .i64 x4_1 ∧ Aside0 (xbP.l0 kq x4_1 a0_0 l0_1 = some (r1, r2)) ∧ Aside0 (kq ≤ k) ∧ Aside0 (w'.heap[gb185]? = some (.cells #[.int .i64 a0_0, (.slice A0_1 l0_1.length c0_1)] 24 (0, 0))) ∧ Aside0 (Below w.heap.size w w'))
   case atStart => exact ⟨(0), (by first | rfl | (simp; done) | (simp [*]; done)), H', ⟨Nat.le_refl _⟩, ⟨by (with_reducible repeat (first | refine xaG ?_ _ | refine xaJ ?_ | refine xaH ?_ _)); exact BK185.out⟩, ⟨by repeat (first | (with_reducible first | exact HB.out | apply xaB | apply xaA | apply xaC | refine xaF ?_ GE185.out) | exact HB.out)⟩⟩
   case round =>
    clear H'
    obtain ⟨x4_1, rfl, HA, HK1, BK185, HB⟩ := hrel
    cases gk with
    | zero => exact absurd HA.out (by simp [xbP.l0])
    | succ k1 =>
     have H := HA.out;clear HA
     simp only [xbP.l0] at H
     by_cases c9 : x4_1 < (l0_1.length : Int)
     ·
      rw [if_pos c9] at H
      have c9b0 : decide (x4_1 < (l0_1.length : Int)) = true := decide_eq_true c9
      clear c9
      by_cases c10 : 0 ≤ x4_1
      ·
       rw [if_pos c10] at H
       have c10b0 : decide (0 ≤ x4_1) = true := decide_eq_true c10
       clear c10;replace H := Option.bind_eq_some_iff.mp H
       obtain ⟨t188, A110, H⟩ := H
       replace H : (if t188 = true then (xbP.l0 k1 (wrap64 (x4_1 + 1)) a0_0 l0_1) else (some (60, x4_1))) = some (r1, r2) := H
       have A11 := Aside0.mk A110;clear A110
       by_cases c12 : t188 = true
       ·
        subst c12
        have H1 : (xbP.l0 k1 (wrap64 (x4_1 + 1)) a0_0 l0_1) = some (r1, r2) := by rw [if_pos rfl] at H; exact H
        clear H;have H := H1;clear H1;have H' := Aside0.mk H;clear H
        have hcz13_0 : wr.cell? ⟨gb185, 0, none⟩ = some (.int .i64 a0_0) := (xaE BK185.out 0).trans rfl
        have hcz13_1 : wr.cell? ⟨gb185, 1, none⟩ = some (.slice A0_1 l0_1.length c0_1) := (xaE BK185.out 1).trans rfl
        have hfz13_0 := xaD BK185.out 0;have hfz13_1 := xaD BK185.out 1
        have p187 : 0 ≤ (x4_1 : Int) := of_decide_eq_true (by first | (with_reducible assumption) | assumption)
        have q187 : x4_1 < (l0_1.length : Int) := of_decide_eq_true (by first | (with_reducible assumption) | assumption)
        obtain ⟨ad187, e187, hx187_0, hx187_1, hx187_2, hx187_3, hx187_4, hx187_5, hx187_6, hx187_7, hx187_8⟩ := at_T63 HR0_1.out x4_1 p187 q187
        cases e187
        replace hx187_0 := (HB.out.cell (World.block_lt_of_cell? w _ hx187_0)).trans hx187_0
        replace hx187_1 := (HB.out.cell (World.block_lt_of_cell? w _ hx187_1)).trans hx187_1
        replace hx187_2 := (HB.out.cell (World.block_lt_of_cell? w _ hx187_2)).trans hx187_2
        replace hx187_3 := (HB.out.cell (World.block_lt_of_cell? w _ hx187_3)).trans hx187_3
        replace hx187_4 := (HB.out.cell (World.block_lt_of_cell? w _ hx187_4)).trans hx187_4
        replace hx187_5 := (HB.out.cell (World.block_lt_of_cell? w _ hx187_5)).trans hx187_5
        replace hx187_6 := (HB.out.cell (World.block_lt_of_cell? w _ hx187_6)).trans hx187_6
        replace hx187_7 := (HB.out.cell (World.block_lt_of_cell? w _ hx187_7)).trans hx187_7
        replace hx187_8 := (HB.out.cell (World.block_lt_of_cell? w _ hx187_8)).trans hx187_8
        replace p187 := eq_true p187;replace q187 := eq_true q187
        go_wp2_with (first | ((with_reducible refine xaQ (f := 85) rfl ?_); refine goesL_ (some 25) rfl rfl Try.func85 (by kernel_rfl) rfl #[.agg #[.int .i64 ((rd_T63 l0_1 x4_1).f0), .int .i64 ((rd_T63 l0_1 x4_1).f1), .int .i64 ((rd_T63 l0_1 x4_1).f2), .int .i64 ((rd_T63 l0_1 x4_1).f3), .int .i64 ((rd_T63 l0_1 x4_1).f4), .int .i64 ((rd_T63 l0_1 x4_1).f5), .int .i64 ((rd_T63 l0_1 x4_1).f6), .int .i64 ((rd_T63 l0_1 x4_1).f7), .int .i64 ((rd_T63 l0_1 x4_1).f8)]] rfl (by (try simp only [List.map_toArray, List.map_cons, List.map_nil]); first | done | rfl | (simp only [List.length_drop, List.length_take]; rfl)) ?_; (with_reducible refine (xfB.calls ((rd_T63 l0_1 x4_1).f0) ((rd_T63 l0_1 x4_1).f1) ((rd_T63 l0_1 x4_1).f2) ((rd_T63 l0_1 x4_1).f3) ((rd_T63 l0_1 x4_1).f4) ((rd_T63 l0_1 x4_1).f5) ((rd_T63 l0_1 x4_1).f6) ((rd_T63 l0_1 x4_1).f7) ((rd_T63 l0_1 x4_1).f8) true _ A11.out).mono ?_); rintro e w14 ⟨rfl, hb⟩; refine ⟨_, rfl, ?_⟩; have n0_ := Aside0.mk (xaY (g := gb185) (o := .cells #[.int .i64 a0_0, .slice (some ad187) l0_1.length c0_1] 24 (0, 0)) (by (with_reducible repeat (first | refine xaG ?_ _ | refine xaJ ?_ | refine xaH ?_ _)); exact BK185.out) hb); have n1_ := Aside0.mk (xaP (by repeat (first | (with_reducible first | exact HB.out | apply xaB | apply xaA | apply xaC | refine xaF ?_ GE185.out) | exact HB.out)) hb); clear BK185; clear HB; have BK185 := n0_; have HB := n1_; clear n0_ n1_; (try clear hb); (try clear hb2); (try clear hk); (try clear hi)))
        go_roundg k1
        case measure => have := HK1.out; omega
        case rel => exact ⟨(wrap64 (x4_1 + 1)), (by first | rfl | (simp; done) | (simp [*]; done)), H', ⟨by have := HK1.out; omega⟩, ⟨by (with_reducible repeat (first | refine xaG ?_ _ | refine xaJ ?_ | refine xaH ?_ _)); exact BK185.out⟩, ⟨by repeat (first | (with_reducible first | exact HB.out | apply xaB | apply xaA | apply xaC | refine xaF ?_ GE185.out) | exact HB.out)⟩⟩
       ·
        replace c12 := Bool.eq_false_iff.mpr c12;subst c12
        have H1 : (some (60, x4_1)) = some (r1, r2) := by rw [if_neg (show ¬ (false = true) by decide)] at H; exact H
        clear H;have H := H1;clear H1
        simp only [Option.some.injEq, Prod.mk.injEq] at H
        obtain ⟨rfl, rfl⟩ := H
        have hcz15_0 : wr.cell? ⟨gb185, 0, none⟩ = some (.int .i64 a0_0) := (xaE BK185.out 0).trans rfl
        have hcz15_1 : wr.cell? ⟨gb185, 1, none⟩ = some (.slice A0_1 l0_1.length c0_1) := (xaE BK185.out 1).trans rfl
        have hfz15_0 := xaD BK185.out 0;have hfz15_1 := xaD BK185.out 1
        have p187 : 0 ≤ (x4_1 : Int) := of_decide_eq_true (by first | (with_reducible assumption) | assumption)
        have q187 : x4_1 < (l0_1.length : Int) := of_decide_eq_true (by first | (with_reducible assumption) | assumption)
        obtain ⟨ad187, e187, hx187_0, hx187_1, hx187_2, hx187_3, hx187_4, hx187_5, hx187_6, hx187_7, hx187_8⟩ := at_T63 HR0_1.out x4_1 p187 q187
        cases e187
        replace hx187_0 := (HB.out.cell (World.block_lt_of_cell? w _ hx187_0)).trans hx187_0
        replace hx187_1 := (HB.out.cell (World.block_lt_of_cell? w _ hx187_1)).trans hx187_1
        replace hx187_2 := (HB.out.cell (World.block_lt_of_cell? w _ hx187_2)).trans hx187_2
        replace hx187_3 := (HB.out.cell (World.block_lt_of_cell? w _ hx187_3)).trans hx187_3
        replace hx187_4 := (HB.out.cell (World.block_lt_of_cell? w _ hx187_4)).trans hx187_4
        replace hx187_5 := (HB.out.cell (World.block_lt_of_cell? w _ hx187_5)).trans hx187_5
        replace hx187_6 := (HB.out.cell (World.block_lt_of_cell? w _ hx187_6)).trans hx187_6
        replace hx187_7 := (HB.out.cell (World.block_lt_of_cell? w _ hx187_7)).trans hx187_7
        replace hx187_8 := (HB.out.cell (World.block_lt_of_cell? w _ hx187_8)).trans hx187_8
        replace p187 := eq_true p187;replace q187 := eq_true q187
        go_wp2_with (first | ((with_reducible refine xaQ (f := 85) rfl ?_); refine goesL_ (some 25) rfl rfl Try.func85 (by kernel_rfl) rfl #[.agg #[.int .i64 ((rd_T63 l0_1 x4_1).f0), .int .i64 ((rd_T63 l0_1 x4_1).f1), .int .i64 ((rd_T63 l0_1 x4_1).f2), .int .i64 ((rd_T63 l0_1 x4_1).f3), .int .i64 ((rd_T63 l0_1 x4_1).f4), .int .i64 ((rd_T63 l0_1 x4_1).f5), .int .i64 ((rd_T63 l0_1 x4_1).f6), .int .i64 ((rd_T63 l0_1 x4_1).f7), .int .i64 ((rd_T63 l0_1 x4_1).f8)]] rfl (by (try simp only [List.map_toArray, List.map_cons, List.map_nil]); first | done | rfl | (simp only [List.length_drop, List.length_take]; rfl)) ?_; (with_reducible refine (xfB.calls ((rd_T63 l0_1 x4_1).f0) ((rd_T63 l0_1 x4_1).f1) ((rd_T63 l0_1 x4_1).f2) ((rd_T63 l0_1 x4_1).f3) ((rd_T63 l0_1 x4_1).f4) ((rd_T63 l0_1 x4_1).f5) ((rd_T63 l0_1 x4_1).f6) ((rd_T63 l0_1 x4_1).f7) ((rd_T63 l0_1 x4_1).f8) false _ A11.out).mono ?_); rintro e w16 ⟨rfl, hb⟩; refine ⟨_, rfl, ?_⟩; have n0_ := Aside0.mk (xaY (g := gb185) (o := .cells #[.int .i64 a0_0, .slice (some ad187) l0_1.length c0_1] 24 (0, 0)) (by (with_reducible repeat (first | refine xaG ?_ _ | refine xaJ ?_ | refine xaH ?_ _)); exact BK185.out) hb); have n1_ := Aside0.mk (xaP (by repeat (first | (with_reducible first | exact HB.out | apply xaB | apply xaA | apply xaC | refine xaF ?_ GE185.out) | exact HB.out)) hb); clear BK185; clear HB; have BK185 := n0_; have HB := n1_; clear n0_ n1_; (try clear hb); (try clear hb2); (try clear hk); (try clear hi)))
        go_ret2
        exact ⟨by first | rfl | (simp [xaL, xaK] <;> rfl) | (simp [*, xaL, xaK] <;> rfl), by repeat (first | (with_reducible first | exact HB.out | apply xaB | apply xaA | apply xaC | refine xaF ?_ GE185.out) | exact HB.out)⟩
      ·
       rw [if_neg c10] at H
       exact absurd H (by simp)
     ·
      rw [if_neg c9] at H
      have c9b0 : decide (x4_1 < (l0_1.length : Int)) = false := decide_eq_false c9
      clear c9
      simp only [Option.some.injEq, Prod.mk.injEq] at H
      obtain ⟨rfl, rfl⟩ := H
      have hcz17_0 : wr.cell? ⟨gb185, 0, none⟩ = some (.int .i64 a0_0) := (xaE BK185.out 0).trans rfl
      have hcz17_1 : wr.cell? ⟨gb185, 1, none⟩ = some (.slice A0_1 l0_1.length c0_1) := (xaE BK185.out 1).trans rfl
      have hfz17_0 := xaD BK185.out 0;have hfz17_1 := xaD BK185.out 1
      go_wp2
      go_ret2
      exact ⟨by first | rfl | (simp [xaL, xaK] <;> rfl) | (simp [*, xaL, xaK] <;> rfl), by repeat (first | (with_reducible first | exact HB.out | apply xaB | apply xaA | apply xaC | refine xaF ?_ GE185.out) | exact HB.out)⟩
  ·
   replace c6 := Bool.eq_false_iff.mpr c6;subst c6
   have H1 : (some (60, (-1))) = some (r1, r2) := by rw [if_neg (show ¬ (false = true) by decide)] at H; exact H
   clear H;have H := H1;clear H1
   simp only [Option.some.injEq, Prod.mk.injEq] at H
   obtain ⟨rfl, rfl⟩ := H
   go_enter Try.func45, Try.ntmps45
   go_wp2_with (first | ((with_reducible refine xbM (N := 1) rfl ?_); refine xbJ ?hg (N := 1) ?hd (cs := #[.int .i64 a0_0, .slice A0_1 l0_1.length c0_1]) (t := 24) ?hr ?_; (case hd => rfl); (case hg => rfl); (case hr => first | (go_simp; done) | (go_simp; rfl)); intro gb185 hg w18 hbox hb; have n0_ := Aside0.mk (xaP (by repeat (first | (with_reducible first | exact HB.out | apply xaB | apply xaA | apply xaC) | exact HB.out)) hb); have n1_ := Aside0.mk (hbox); have n2_ := Aside0.mk ((by rw [hg]; exact (xaR (by repeat (first | (with_reducible first | exact HB.out | apply xaB | apply xaA | apply xaC) | exact HB.out))) : w.heap.size ≤ gb185)); have n3_ := Aside0.mk ((by rw [hg]; exact (xaR (by repeat (first | (with_reducible first | exact HB.out | apply xaB | apply xaA | apply xaC) | exact HB.out))) : w.heap.size ≤ gb185)); clear HB; have HB := n0_; have BK185 := n1_; have GW185 := n2_; have GE185 := n3_; clear n0_ n1_ n2_ n3_; clear hb hbox hg; have hcz19_0 : w18.cell? ⟨gb185, 0, none⟩ = some (.int .i64 a0_0) := (xaE BK185.out 0).trans rfl; have hcz19_1 : w18.cell? ⟨gb185, 1, none⟩ = some (.slice A0_1 l0_1.length c0_1) := (xaE BK185.out 1).trans rfl; have hfz19_0 := xaD BK185.out 0; have hfz19_1 := xaD BK185.out 1) | ((with_reducible refine xaQ (f := 79) rfl ?_); refine goesL_ (some 11) rfl rfl Try.func79 (by kernel_rfl) rfl #[.int .i64 a0_0, .int .i64 0, .int .i64 126] rfl (by (try simp only [List.map_toArray, List.map_cons, List.map_nil]); first | done | rfl | (simp only [List.length_drop, List.length_take]; rfl)) ?_; (with_reducible refine (xdG.calls a0_0 0 126 false _ A5.out).mono ?_); rintro e w' ⟨rfl, ⟨nd, rfl⟩⟩; refine ⟨_, rfl, ?_⟩))
   go_ret2
   exact ⟨by first | rfl | (simp [xaL, xaK] <;> rfl) | (simp [*, xaL, xaK] <;> rfl), by repeat (first | (with_reducible first | exact HB.out | apply xaB | apply xaA | apply xaC | refine xaF ?_ GE185.out) | exact HB.out)⟩
def xbV.f (a0 : Int) : Option (Bool) := if (Int.tmod a0 4) = 0 then (if (Int.tmod a0 100) = 0 then (some ((Int.tmod a0 400) == 0)) else (some true)) else (some ((Int.tmod a0 400) == 0))
set_option maxHeartbeats 8000000 in
set_option maxRecDepth 100000 in
theorem xbV.calls (a0 : Int) (r : Bool) (w : World) (h : xbV.f a0 = some r) :
  Calls Try.prog 98 #[.int .i64 a0] w fun e w' => e = .returned (.bool r) ∧ Drawn0 w w' := by
 have H : (if (Int.tmod a0 4) = 0 then (if (Int.tmod a0 100) = 0 then (some ((Int.tmod a0 400) == 0)) else (some true)) else (some ((Int.tmod a0 400) == 0))) = some r := h
 clear h
 by_cases c2 : (Int.tmod a0 4) = 0
 ·
  rw [if_pos c2] at H
  have c2b0 : ((Int.tmod a0 4) == 0) = true := beq_iff_eq.mpr c2
  have c2b1 : ((Int.tmod a0 4) != 0) = false := bne_eq_false_iff_eq.mpr c2
  clear c2
  by_cases c3 : (Int.tmod a0 100) = 0
  ·
   rw [if_pos c3] at H
   have c3b0 : ((Int.tmod a0 100) == 0) = true := beq_iff_eq.mpr c3
   have c3b1 : ((Int.tmod a0 100) != 0) = false := bne_eq_false_iff_eq.mpr c3
   clear c3
   obtain rfl := Option.some.inj H
   go_enter Try.func98, Try.ntmps98
   go_wp2
   go_ret
   exact ⟨by first | rfl | (simp; done) | (simp [*]; done), by repeat (first | exact Drawn0.refl _ | apply Drawn0.step)⟩
  ·
   rw [if_neg c3] at H
   have c3b0 : ((Int.tmod a0 100) == 0) = false := beq_eq_false_iff_ne.mpr c3
   have c3b1 : ((Int.tmod a0 100) != 0) = true := bne_iff_ne.mpr c3
   obtain rfl := Option.some.inj H
   go_enter Try.func98, Try.ntmps98
   go_wp2
   go_ret
   exact ⟨by first | rfl | (simp; done) | (simp [*]; done), by repeat (first | exact Drawn0.refl _ | apply Drawn0.step)⟩
 ·
  rw [if_neg c2] at H
  have c2b0 : ((Int.tmod a0 4) == 0) = false := beq_eq_false_iff_ne.mpr c2
  have c2b1 : ((Int.tmod a0 4) != 0) = true := bne_iff_ne.mpr c2
  obtain rfl := Option.some.inj H
  go_enter Try.func98, Try.ntmps98
  go_wp2
  go_ret
  exact ⟨by first | rfl | (simp; done) | (simp [*]; done), by repeat (first | exact Drawn0.refl _ | apply Drawn0.step)⟩
end Go.Proofs.Ytoncignjcgjhhaa.Q
namespace Go.Proofs.Ytoncignjcgjhhaa.Q
open Go.RowKit Go.Proofs.YtoncignjcgjhhaaW.PrintWords Go.Proofs.YtoncignjcgjhhaaW.PrintLast Go.Proofs.YtoncignjcgjhhaaW.PrintMore
attribute [local go_sem] xcC xcB xcR xcQ xbX xbW xcF xcE   -- for this text's walks alone
def xbN.j0 : Nat → Int → Int → Bool → Option (Int)
  | 0, _, _, _ => none
  | k + 1, x0, x5, x6 => if x6 = true then (some 30) else (if x5 = 2 then ((xbV.f x0).bind fun t189 => (if t189 = true then (some 29) else (some 28))) else (some 31))
def xbN.f (k : Nat) (a0 : Int) (a1 : Int) : Option (Int) := if a1 = 4 then (xbN.j0 k a0 a1 (a1 == 4)) else (if a1 = 6 then (xbN.j0 k a0 a1 (a1 == 6)) else (if a1 = 9 then (xbN.j0 k a0 a1 (a1 == 9)) else (xbN.j0 k a0 a1 (a1 == 11))))
set_option maxHeartbeats 8000000 in
set_option maxRecDepth 100000 in
theorem xbN.calls (k : Nat) (a0 : Int) (a1 : Int) (r : Int) (w : World) (h : xbN.f k a0 a1 = some r) :
  Calls Try.prog 124 #[.int .i64 a0, .int .i64 a1] w fun e w' => e = .returned (.int .i64 r) ∧ Drawn0 w w' := by
 have H : (if a1 = 4 then (xbN.j0 k a0 a1 (a1 == 4)) else (if a1 = 6 then (xbN.j0 k a0 a1 (a1 == 6)) else (if a1 = 9 then (xbN.j0 k a0 a1 (a1 == 9)) else (xbN.j0 k a0 a1 (a1 == 11))))) = some r := h
 clear h;have HC3 := Aside0.mk H;clear H
 go_enter Try.func124, Try.ntmps124
 go_upto_if 6 with (fail)
 go_cut [6] (fun v6 wc => ∃ (kq : Nat) (x6_2 : Bool), v6 = .bool x6_2 ∧ Aside0 (xbN.j0 kq a0 a1 x6_2 = some r) ∧ Aside0 (kq ≤ k) ∧ Drawn0 w wc)
 case first =>
  have H := HC3.out;clear HC3
  by_cases c4 : a1 = 4
  ·
   rw [if_pos c4] at H
   have c4b0 : (a1 == 4) = true := beq_iff_eq.mpr c4
   have c4b1 : (a1 != 4) = false := bne_eq_false_iff_eq.mpr c4
   clear c4
   (first | rw [c4b0] | (simp only [i64_w, i32_w]; rw [c4b0]) | skip)
   have H' := Aside0.mk H;clear H
   go_wp2
   go_meet
   case rel => exact ⟨_, ((a1 == 4)), (by first | rfl | (simp; done) | (simp [*]; done)), H', ⟨by first | omega | exact Nat.le_refl _⟩, by repeat (first | exact Drawn0.refl _ | apply Drawn0.step)⟩
  ·
   rw [if_neg c4] at H
   have c4b0 : (a1 == 4) = false := beq_eq_false_iff_ne.mpr c4
   have c4b1 : (a1 != 4) = true := bne_iff_ne.mpr c4
   (first | rw [c4b0] | (simp only [i64_w, i32_w]; rw [c4b0]) | skip)
   by_cases c5 : a1 = 6
   ·
    rw [if_pos c5] at H
    have c5b0 : (a1 == 6) = true := beq_iff_eq.mpr c5
    have c5b1 : (a1 != 6) = false := bne_eq_false_iff_eq.mpr c5
    clear c5;have H' := Aside0.mk H;clear H
    go_wp2
    go_meet
    case rel => exact ⟨_, ((a1 == 6)), (by first | rfl | (simp; done) | (simp [*]; done)), H', ⟨by first | omega | exact Nat.le_refl _⟩, by repeat (first | exact Drawn0.refl _ | apply Drawn0.step)⟩
   ·
    rw [if_neg c5] at H
    have c5b0 : (a1 == 6) = false := beq_eq_false_iff_ne.mpr c5
    have c5b1 : (a1 != 6) = true := bne_iff_ne.mpr c5
    by_cases c6 : a1 = 9
    ·
     rw [if_pos c6] at H
     have c6b0 : (a1 == 9) = true := beq_iff_eq.mpr c6
     have c6b1 : (a1 != 9) = false := bne_eq_false_iff_eq.mpr c6
     clear c6;have H' := Aside0.mk H;clear H
     go_wp2
     go_meet
     case rel => exact ⟨_, ((a1 == 9)), (by first | rfl | (simp; done) | (simp [*]; done)), H', ⟨by first | omega | exact Nat.le_refl _⟩, by repeat (first | exact Drawn0.refl _ | apply Drawn0.step)⟩
    ·
     rw [if_neg c6] at H
     have c6b0 : (a1 == 9) = false := beq_eq_false_iff_ne.mpr c6
     have c6b1 : (a1 != 9) = true := bne_iff_ne.mpr c6
     have H' := Aside0.mk H;clear H
     go_wp2
     go_meet
     case rel => exact ⟨_, ((a1 == 11)), (by first | rfl | (simp; done) | (simp [*]; done)), H', ⟨by first | omega | exact Nat.le_refl _⟩, by repeat (first | exact Drawn0.refl _ | apply Drawn0.step)⟩
 case rest =>
  clear HC3
  obtain ⟨kq, x6_2, rfl, HA, HJ2, ⟨mc2, rfl⟩⟩ := hcut
  cases kq with
  | zero => exact absurd HA.out (by simp [xbN.j0])
  | succ kj2 =>
   have H := HA.out;clear HA
   simp only [xbN.j0] at H
   by_cases c7 : x6_2 = true
   ·
    subst c7
    have H1 : (some 30) = some r := by rw [if_pos rfl] at H; exact H
    clear H;have H := H1;clear H1
    obtain rfl := Option.some.inj H
    go_wp2
    go_ret
    exact ⟨by first | rfl | (simp; done) | (simp [*]; done), by repeat (first | exact Drawn0.refl _ | apply Drawn0.step)⟩
   ·
    replace c7 := Bool.eq_false_iff.mpr c7;subst c7
    have H1 : (if a1 = 2 then ((xbV.f a0).bind fun t189 => (if t189 = true then (some 29) else (some 28))) else (some 31)) = some r := by rw [if_neg (show ¬ (false = true) by decide)] at H; exact H
    clear H;have H := H1;clear H1
    by_cases c8 : a1 = 2
    ·
     rw [if_pos c8] at H
     have c8b0 : (a1 == 2) = true := beq_iff_eq.mpr c8
     have c8b1 : (a1 != 2) = false := bne_eq_false_iff_eq.mpr c8
     clear c8;replace H := Option.bind_eq_some_iff.mp H
     obtain ⟨t189, A90, H⟩ := H
     replace H : (if t189 = true then (some 29) else (some 28)) = some r := H
     have A9 := Aside0.mk A90;clear A90
     by_cases c10 : t189 = true
     ·
      subst c10
      have H1 : (some 29) = some r := by rw [if_pos rfl] at H; exact H
      clear H;have H := H1;clear H1
      obtain rfl := Option.some.inj H
      go_wp2_with (first | ((with_reducible refine xaQ (f := 98) rfl ?_); refine goesL_ (some 14) rfl rfl Try.func98 (by kernel_rfl) rfl #[.int .i64 a0] rfl (by (try simp only [List.map_toArray, List.map_cons, List.map_nil]); first | done | rfl | (simp only [List.length_drop, List.length_take]; rfl)) ?_; (with_reducible refine (xbV.calls a0 true _ A9.out).mono ?_); rintro e w' ⟨rfl, ⟨nd, rfl⟩⟩; refine ⟨_, rfl, ?_⟩))
      go_ret
      exact ⟨by first | rfl | (simp; done) | (simp [*]; done), by repeat (first | exact Drawn0.refl _ | apply Drawn0.step)⟩
     ·
      replace c10 := Bool.eq_false_iff.mpr c10;subst c10
      have H1 : (some 28) = some r := by rw [if_neg (show ¬ (false = true) by decide)] at H; exact H
      clear H;have H := H1;clear H1
      obtain rfl := Option.some.inj H
      go_wp2_with (first | ((with_reducible refine xaQ (f := 98) rfl ?_); refine goesL_ (some 14) rfl rfl Try.func98 (by kernel_rfl) rfl #[.int .i64 a0] rfl (by (try simp only [List.map_toArray, List.map_cons, List.map_nil]); first | done | rfl | (simp only [List.length_drop, List.length_take]; rfl)) ?_; (with_reducible refine (xbV.calls a0 false _ A9.out).mono ?_); rintro e w' ⟨rfl, ⟨nd, rfl⟩⟩; refine ⟨_, rfl, ?_⟩))
      go_ret
      exact ⟨by first | rfl | (simp; done) | (simp [*]; done), by repeat (first | exact Drawn0.refl _ | apply Drawn0.step)⟩
    ·
     rw [if_neg c8] at H
     have c8b0 : (a1 == 2) = false := beq_eq_false_iff_ne.mpr c8
     have c8b1 : (a1 != 2) = true := bne_iff_ne.mpr c8
     obtain rfl := Option.some.inj H
     go_wp2
     go_ret
     exact ⟨by first | rfl | (simp; done) | (simp [*]; done), by repeat (first | exact Drawn0.refl _ | apply Drawn0.step)⟩
end Go.Proofs.Ytoncignjcgjhhaa.Q
