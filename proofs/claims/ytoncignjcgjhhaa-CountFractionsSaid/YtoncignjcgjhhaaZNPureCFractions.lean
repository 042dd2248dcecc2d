/- The statement of fractions: the program's are the document's. Condition: the rules' numbers are of 64 bits. -/
import Derived.Test.YtoncignjcgjhhaaZNCountB
import Derived.Test.YtoncignjcgjhhaaZNAwake7
import Derived.Test.YtoncignjcgjhhaaZNQx30
import Derived.Test.YtoncignjcgjhhaaZN
set_option linter.unusedVariables false
set_option linter.unusedSimpArgs false
namespace Go.Proofs.Ytoncignjcgjhhaa.N
open Go.RowKit Go.Proofs.YtoncignjcgjhhaaW.PrintWords Go.Proofs.YtoncignjcgjhhaaW.PrintLast Go.Proofs.YtoncignjcgjhhaaW.PrintMore
open Go.Proofs.Ytoncignjcgjhhaa.Q
theorem CountFractions (kind we : Int) (l : List S63) (a b : Int) (hw : wfL l) : Ev (fun k => tenorlaw7_CountFractions.f k kind we l a b) true := by
  have haw : ∀ k : Nat, (tenorlaw7_awake.f).bind (fun t => some t) = some true := fun _ => rfl
  have hj : ∀ x, Ev (fun k => tenorlaw7_CountFractions.j0 k kind a b x we l) true := by
    intro x
    refine Ev.step (fun k => by rw [tenorlaw7_CountFractions.j0]) (ev_ite (fun _ => Ev.congr haw (Ev.now _)) (fun _ => ?_))
    refine Ev.bind (cFrac kind we l a b hw) (Ev.bind (rFrac kind we l a b) ?_)
    exact Ev.congr (fun k => by rw [if_pos rfl, if_pos rfl, if_pos rfl, haw k]) (Ev.now _)
  refine Ev.congr (fun k => by unfold tenorlaw7_CountFractions.f; rfl) (ev_ite (fun _ => hj _) (fun _ => ?_))
  obtain ⟨t, ht⟩ : ∃ t, tenorlaw7_short.f kind we l a b = some t := by
    unfold tenorlaw7_short.f
    repeat' split
    all_goals exact ⟨_, rfl⟩
  exact Ev.congr (fun k => by rw [ht, Option.bind_some]) (hj _)
end Go.Proofs.Ytoncignjcgjhhaa.N
