/- The law of third Wednesdays and Easter, over the functions that the walks compute. No condition. -/
import Derived.Test.YtoncignjcgjhhaaDoorZPureD0
import Derived.Test.YtoncignjcgjhhaaDoorZMonths
import Derived.Test.YtoncignjcgjhhaaDoorZQx15
import Derived.Test.YtoncignjcgjhhaaDoorZV
set_option linter.unusedVariables false
set_option linter.unusedSimpArgs false
namespace Go.Proofs.YtoncignjcgjhhaaDoor.D
open Go.RowKit Go.Proofs.YtoncignjcgjhhaaDoorW.PrintWords Go.Proofs.YtoncignjcgjhhaaDoorW.PrintLast Go.Proofs.YtoncignjcgjhhaaDoorW.PrintMore
open Go.Proofs.YtoncignjcgjhhaaDoor.Q
theorem DateNamed (y m : Int) : Ev (fun q => tenorlaw5_DateNamed.f q y m) true := by
 refine Ev.congr (fun q => by unfold tenorlaw5_DateNamed.f; rfl) (Ev.bind (L.Third y m) (Ev.bind (R.Third5 y m) ?_))
 refine Ev.congr (fun q => ?_) awk
 rw [date_Easter.f, Option.bind_some, tenorref5_Easter.f, Option.bind_some]
 repeat rw [if_pos rfl]
end Go.Proofs.YtoncignjcgjhhaaDoor.D
