/- The contract of the document's Easter. No condition: a year outside of 1900 to 2199 is refused. -/
import Derived.Test.YtoncignjcgjhhaaDoorZGA
import Derived.Test.YtoncignjcgjhhaaDoorZGC
import Derived.Test.YtoncignjcgjhhaaDoorZV
set_option linter.unusedVariables false
set_option linter.unusedSimpArgs false
namespace Go.Proofs.YtoncignjcgjhhaaDoor.H
open Go.RowKit Go.Proofs.YtoncignjcgjhhaaDoorW.PrintWords Go.Proofs.YtoncignjcgjhhaaDoorW.PrintLast Go.Proofs.YtoncignjcgjhhaaDoorW.PrintMore
theorem easter_of (y m d : Int) (h0 : 1900 ≤ y) (h1 : y ≤ 2199) (em : m = M.eT y / 31) (ed : d = M.eT y % 31 + 1) (w : World) :
  Calls Tryd.prog 22 #[.int .i64 y, .int .i64 m, .int .i64 d] w fun e w' => e = .returned (.tuple #[.int .i64 (M.easterDay y), .int .i64 0]) ∧ Drawn0 w w' := by
 obtain ⟨hd, _⟩ := M.easter_spec y h0 h1
 subst em ed
 have h := R.Of y (M.eT y / 31) (M.eT y % 31 + 1)
 rw [if_pos hd] at h
 obtain ⟨k, hk⟩ := h.rounds
 exact Q.tenorref5_Of.calls k y _ _ _ _ w hk
set_option maxHeartbeats 1000000 in
set_option maxRecDepth 100000 in
theorem easter5_yes (y : Int) (h0 : 1900 ≤ y) (h1 : y ≤ 2199) (w : World) :
  Calls Tryd.prog 13 #[.int .i64 y] w fun e w' => e = .returned (.tuple #[.int .i64 (M.easterDay y), .int .i64 0]) ∧ Drawn0 w w' := by
 have g0 : ¬ y < 1900 := by omega
 have g1 : ¬ 2199 < y := by omega
 go_enter Tryd.func13, Tryd.ntmps13
 go_wp2_with fail
 refine (easter_of y _ _ h0 h1 ?_ ?_ _).mono ?_
 ·
  simp only [M.eT, m4]
 ·
  simp only [M.eT, m4]
 rintro e w' ⟨rfl, ⟨n2, rfl⟩⟩
 go_wp2_with fail
 go_ret2
 exact ⟨rfl, by repeat (first | exact Drawn0.refl _ | apply Drawn0.step)⟩
theorem easter5_no (y : Int) (h : ¬ (1900 ≤ y ∧ y ≤ 2199)) (w : World) :
  Calls Tryd.prog 13 #[.int .i64 y] w fun e w' => e = .returned (.tuple #[.int .i64 0, .int .i64 50]) ∧ Drawn0 w w' := by
 by_cases h1 : y < 1900
 ·
  clear h
  go_enter Tryd.func13, Tryd.ntmps13
  go_wp2_with fail
  go_ret2
  exact ⟨rfl, by repeat (first | exact Drawn0.refl _ | apply Drawn0.step)⟩
 ·
  have h2 : 2199 < y := by omega
  clear h
  go_enter Tryd.func13, Tryd.ntmps13
  go_wp2_with fail
  go_ret2
  exact ⟨rfl, by repeat (first | exact Drawn0.refl _ | apply Drawn0.step)⟩
theorem easter5_calls (y : Int) (w : World) : Calls Tryd.prog 13 #[.int .i64 y] w fun e w' => e = .returned (.tuple #[.int .i64 (easterF y).1, .int .i64 (easterF y).2]) ∧ Drawn0 w w' := by
 unfold easterF
 by_cases h : 1900 ≤ y ∧ y ≤ 2199
 ·
  rw [if_pos h]; exact easter5_yes y h.1 h.2 w
 ·
  rw [if_neg h]; exact easter5_no y h w
end Go.Proofs.YtoncignjcgjhhaaDoor.H
