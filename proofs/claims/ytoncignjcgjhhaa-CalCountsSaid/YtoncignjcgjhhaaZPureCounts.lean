/- The statements of calendars, without any program in sight: what the program tells is what the document tells. Condition: the rules' numbers and the arguments are of 64 bits. -/
import Derived.Test.YtoncignjcgjhhaaZPureCal
import Derived.Test.YtoncignjcgjhhaaZRefF
import Derived.Test.YtoncignjcgjhhaaZQx54
set_option linter.unusedVariables false
set_option linter.unusedSimpArgs false
namespace Go.Proofs.Ytoncignjcgjhhaa.R
open Go.RowKit Go.Proofs.YtoncignjcgjhhaaW.PrintWords Go.Proofs.YtoncignjcgjhhaaW.PrintLast Go.Proofs.YtoncignjcgjhhaaW.PrintMore
open Go.Proofs.Ytoncignjcgjhhaa.Q
open Go.Proofs.Ytoncignjcgjhhaa.L (w64 td tm tm0)

theorem CalCounts (we : Int) (l : List S63) (a b : Int) (hw : wfL l) : Ev (fun q => tenorlaw6_CalCounts.f q we l a b) true := by
  have hj : ∀ t, Ev (fun q => tenorlaw6_CalCounts.j0 q a b t we l) true := by
    intro t
    refine Ev.step (fun q => by rw [tenorlaw6_CalCounts.j0, awake6b]) ?_
    cases t with
    | true => exact Ev.congr (fun q => if_pos rfl) (Ev.now _)
    | false =>
      refine Ev.congr (fun q => by rw [if_neg (by decide), cCount hw, Option.bind_some]) (Ev.bind (Count we l a b) ?_)
      exact Ev.congr (fun k => by rw [if_pos rfl, if_pos rfl]) (Ev.now _)
  refine Ev.congr (fun q => by unfold tenorlaw6_CalCounts.f; rw [Few, Option.bind_some]) ?_
  have ite_ev : ∀ (p : Prop) [Decidable p] (g h : Nat → Option Bool), Ev g true → Ev h true → Ev (fun q => if p then g q else h q) true := by
    intro p _ g h hg hh
    by_cases hp : p
    · exact Ev.congr (fun k => if_pos hp) hg
    · exact Ev.congr (fun k => if_neg hp) hh
  repeat' (refine ite_ev _ _ _ ?_ ?_)
  all_goals exact hj _
end Go.Proofs.Ytoncignjcgjhhaa.R
