/- The law of the months on, over the functions that the walks compute. No condition. -/
import Derived.Test.YtoncignjcgjhhaaDoorZPureD0
import Derived.Test.YtoncignjcgjhhaaDoorZMonths
import Derived.Test.YtoncignjcgjhhaaDoorZQx17
import Derived.Test.YtoncignjcgjhhaaDoorZV
set_option linter.unusedVariables false
set_option linter.unusedSimpArgs false
namespace Go.Proofs.YtoncignjcgjhhaaDoor.D
open Go.RowKit Go.Proofs.YtoncignjcgjhhaaDoorW.PrintWords Go.Proofs.YtoncignjcgjhhaaDoorW.PrintLast Go.Proofs.YtoncignjcgjhhaaDoorW.PrintMore
open Go.Proofs.YtoncignjcgjhhaaDoor.Q
theorem DateMonths (n k : Int) (e : Bool) : Ev (fun q => tenorlaw5_DateMonths.f q n k e) true := by
  refine Ev.congr (fun q => by unfold tenorlaw5_DateMonths.f; rfl) (Ev.bind (L.Months n k e) (Ev.bind (R.Months5 n k e) ?_))
  exact Ev.congr (fun q => by rw [if_pos rfl, if_pos rfl]) awk
end Go.Proofs.YtoncignjcgjhhaaDoor.D
