/- Contracts of functions of the seat's program: each Go function's Lean function and its walk, written by a program of this session over the kit's print. Not trusted: Lean checks it. -/
import Derived.Test.YtoncignjcgjhhaaDoorZGA
import Derived.Test.YtoncignjcgjhhaaDoorZEasterB
import Derived.Test.YtoncignjcgjhhaaDoorZV
set_option linter.unusedVariables false
set_option linter.unusedSimpArgs false
namespace Go.Proofs.YtoncignjcgjhhaaDoor.Q
open Go.RowKit Go.Proofs.YtoncignjcgjhhaaDoorW.PrintWords Go.Proofs.YtoncignjcgjhhaaDoorW.PrintLast Go.Proofs.YtoncignjcgjhhaaDoorW.PrintMore
attribute [local go_sem] max2_int min2_int max_two min_two max_three min_three max_four min_four   -- for this text's walks alone
def tenorref5_Easter.f (a0 : Int) : Option (Int × Int) := some (Go.Proofs.YtoncignjcgjhhaaDoor.H.easterF a0)
theorem tenorref5_Easter.calls (a0 : Int) (r1 : Int) (r2 : Int) (w : World) (h : tenorref5_Easter.f a0 = some (r1, r2)) :
  Calls Tryd.prog 13 #[.int .i64 a0] w fun e w' => e = .returned (.tuple #[.int .i64 r1, .int .i64 r2]) ∧ Drawn0 w w' := by
 have e := Option.some.inj h;have c := Go.Proofs.YtoncignjcgjhhaaDoor.H.easter5_calls a0 w
 rw [e] at c
 exact c
end Go.Proofs.YtoncignjcgjhhaaDoor.Q
