/- Contracts and facts of functions of the program, joined in one text. -/
import Derived.Test.YtkabcgmegljebaaGreatDoorDGA
import Derived.Test.YtkabcgmegljebaaGreatDoorDGH
set_option linter.unusedVariables false
set_option linter.unusedSimpArgs false
namespace Go.Proofs.YtkabcgmegljebaaGreatDoor.Q
open Go.RowKit Go.Proofs.YtkabcgmegljebaaGreatDoorW.PrintWords Go.Proofs.YtkabcgmegljebaaGreatDoorW.PrintLast Go.Proofs.YtkabcgmegljebaaGreatDoorW.PrintMore
attribute [local go_sem] xcP xcM xcY xcX xcF xcE xcN xcL
def xcA.f (a0_0 : Int) (l0_1 : List S214) (a1 a2 : Int) : Option (Int × Int) := if a0_0 = 0 ∧ l0_1.length = 0 ∧ a2 = 0 then some (Go.Proofs.YtkabcgmegljebaaGreatDoor.H.adj0 a1) else none
theorem xcA.calls (a0_0 : Int) (A0_1 : Option Addr) (c0_1 : Nat) (l0_1 : List (S214)) (a1 a2 r1 r2 : Int) (w : World) (hr0_1 : Kd.C k214 w A0_1 l0_1.length l0_1) (hc0_1 : l0_1.length ≤ c0_1) (h : xcA.f a0_0 l0_1 a1 a2 = some (r1, r2)) :
  Calls Tryz.prog 163 #[.agg #[.int .i64 a0_0, .slice A0_1 l0_1.length c0_1], .int .i64 a1, .int .i64 a2] w fun e w' => e = .returned (.tuple #[.int .i64 r1, .int .i64 r2]) ∧ Below w.heap.size w w' := by
 unfold xcA.f at h
 split at h
 ·
  rename_i hc
  obtain ⟨rfl, hl, rfl⟩ := hc
  rw [hl]
  have e := Option.some.inj h;have c := Go.Proofs.YtkabcgmegljebaaGreatDoor.H.calAdjust0 A0_1 c0_1 a1 w
  rw [e] at c
  exact c
 ·
  cases h
def xfH.f (a0_0 : Int) (l0_1 : List S214) (a1 a2 : Int) : Option (Int × Int) := if a0_0 = 0 ∧ l0_1.length = 0 ∧ False then some (0, 0) else none
theorem xfH.calls (a0_0 : Int) (A0_1 : Option Addr) (c0_1 : Nat) (l0_1 : List (S214)) (a1 a2 r1 r2 : Int) (w : World) (hr0_1 : Kd.C k214 w A0_1 l0_1.length l0_1) (hc0_1 : l0_1.length ≤ c0_1) (h : xfH.f a0_0 l0_1 a1 a2 = some (r1, r2)) :
  Calls Tryz.prog 164 #[.agg #[.int .i64 a0_0, .slice A0_1 l0_1.length c0_1], .int .i64 a1, .int .i64 a2] w fun e w' => e = .returned (.tuple #[.int .i64 r1, .int .i64 r2]) ∧ Below w.heap.size w w' := by
 unfold xfH.f at h
 split at h
 ·
  rename_i hc
  exact hc.2.2.elim
 ·
  cases h
end Go.Proofs.YtkabcgmegljebaaGreatDoor.Q
