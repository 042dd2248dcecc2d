/- The statements of calendars, without any program in sight: what the program tells is what the document tells. Condition: the rules' numbers and the arguments are of 64 bits. -/
import Derived.Test.YtoncignjcgjhhaaZPureCal
import Derived.Test.YtoncignjcgjhhaaZRefE
import Derived.Test.YtoncignjcgjhhaaZQx53
set_option linter.unusedVariables false
set_option linter.unusedSimpArgs false
namespace Go.Proofs.Ytoncignjcgjhhaa.R
open Go.RowKit Go.Proofs.YtoncignjcgjhhaaW.PrintWords Go.Proofs.YtoncignjcgjhhaaW.PrintLast Go.Proofs.YtoncignjcgjhhaaW.PrintMore
open Go.Proofs.Ytoncignjcgjhhaa.Q
open Go.Proofs.Ytoncignjcgjhhaa.L (w64 td tm tm0)

theorem CalAdds (we : Int) (l : List S63) (n k : Int) (hw : wfL l) (hk : L.i64 k) : Ev (fun q => tenorlaw6_CalAdds.f q we l n k) true := by
  have hj : ∀ b, Ev (fun q => tenorlaw6_CalAdds.j0 q n k b we l) true := by
    intro b
    refine Ev.step (fun q => by rw [tenorlaw6_CalAdds.j0, awake6b]) ?_
    cases b with
    | true => exact Ev.congr (fun q => if_pos rfl) (Ev.now _)
    | false =>
      refine Ev.congr (fun q => by rw [if_neg (by decide), cAdd hw _ _ _ hk, Option.bind_some]) (Ev.bind (Add we l n k hk) ?_)
      exact Ev.congr (fun k => by rw [if_pos rfl, if_pos rfl]) (Ev.now _)
  refine Ev.congr (fun q => by unfold tenorlaw6_CalAdds.f; rw [Few, Option.bind_some]) ?_
  by_cases h : l.length ≤ 12
  · refine Ev.congr (fun k => by rw [decide_eq_true h, if_pos rfl]) ?_
    by_cases h2 : (l.length : Int) > 0
    · refine Ev.congr (fun k => if_pos h2) ?_
      by_cases h3 : k > 400
      · exact Ev.congr (fun k => if_pos h3) (hj _)
      · exact Ev.congr (fun k => if_neg h3) (hj _)
    · exact Ev.congr (fun k => if_neg h2) (hj _)
  · exact Ev.congr (fun k => by rw [decide_eq_false h, if_neg (by decide)]) (hj _)

end Go.Proofs.Ytoncignjcgjhhaa.R
