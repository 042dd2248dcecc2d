/- The statements of calendars, without any program in sight: what the program tells is what the document tells. Condition: the rules' numbers and the arguments are of 64 bits. -/
import Derived.Test.YtoncignjcgjhhaaZPureCal
import Derived.Test.YtoncignjcgjhhaaZRefD
import Derived.Test.YtoncignjcgjhhaaZQx52
set_option linter.unusedVariables false
set_option linter.unusedSimpArgs false
namespace Go.Proofs.Ytoncignjcgjhhaa.R
open Go.RowKit Go.Proofs.YtoncignjcgjhhaaW.PrintWords Go.Proofs.YtoncignjcgjhhaaW.PrintLast Go.Proofs.YtoncignjcgjhhaaW.PrintMore
open Go.Proofs.Ytoncignjcgjhhaa.Q
open Go.Proofs.Ytoncignjcgjhhaa.L (w64 td tm tm0)

theorem CalMoves (we : Int) (l : List S63) (n way : Int) (hw : wfL l) : Ev (fun k => tenorlaw6_CalMoves.f k we l n way) true := by
  refine Ev.congr (fun k => by unfold tenorlaw6_CalMoves.f; rw [Few, Option.bind_some, awake6b]) ?_
  by_cases h : l.length ≤ 12
  · refine Ev.congr (fun k => by rw [decide_eq_true h, if_pos rfl, cAdjust hw, Option.bind_some]) (Ev.bind (Adjust we l n way) ?_)
    exact Ev.congr (fun k => by rw [if_pos rfl, if_pos rfl]) (Ev.now _)
  · exact Ev.congr (fun k => by rw [decide_eq_false h, if_neg (by decide)]) (Ev.now _)

end Go.Proofs.Ytoncignjcgjhhaa.R
