/- The statements of calendars, without any program in sight: what the program tells is what the document tells. Condition: the rules' numbers and the arguments are of 64 bits. -/
import Derived.Test.YtoncignjcgjhhaaZPureCal
import Derived.Test.YtoncignjcgjhhaaZGM
set_option linter.unusedVariables false
set_option linter.unusedSimpArgs false
namespace Go.Proofs.Ytoncignjcgjhhaa.R
open Go.RowKit Go.Proofs.YtoncignjcgjhhaaW.PrintWords Go.Proofs.YtoncignjcgjhhaaW.PrintLast Go.Proofs.YtoncignjcgjhhaaW.PrintMore
open Go.Proofs.Ytoncignjcgjhhaa.Q
open Go.Proofs.Ytoncignjcgjhhaa.L (w64 td tm tm0)

theorem CalDays (we : Int) (l : List S63) (n : Int) (hw : wfL l) : Ev (fun k => tenorlaw6_CalDays.f k we l n) true := by
  by_cases h : (l.length : Int) > 64
  · exact Ev.congr (fun k => by unfold tenorlaw6_CalDays.f; rw [if_pos h, awake6b]) (Ev.now _)
  · refine Ev.congr (fun k => by unfold tenorlaw6_CalDays.f; rw [if_neg h, cOpen hw, Option.bind_some]) (Ev.bind (Open we l n) ?_)
    refine Ev.congr (fun k => by rw [cHoliday hw, Option.bind_some]) (Ev.bind (Holiday we l n) ?_)
    refine Ev.congr (fun k => ?_) (Ev.now _)
    rw [if_pos (by simp), if_pos rfl, if_pos (by simp), if_pos rfl, awake6b]

end Go.Proofs.Ytoncignjcgjhhaa.R
