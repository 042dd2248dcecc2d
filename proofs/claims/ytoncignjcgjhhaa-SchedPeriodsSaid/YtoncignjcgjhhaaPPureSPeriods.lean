/- The statement of a schedule's periods: the program's are the document's. Condition: the rules' numbers are of 64 bits. -/
import Derived.Test.YtoncignjcgjhhaaPGO
import Derived.Test.YtoncignjcgjhhaaPGP
set_option linter.unusedVariables false
set_option linter.unusedSimpArgs false
namespace Go.Proofs.Ytoncignjcgjhhaa.S
open Go.RowKit Go.Proofs.YtoncignjcgjhhaaW.PrintWords Go.Proofs.YtoncignjcgjhhaaW.PrintLast Go.Proofs.YtoncignjcgjhhaaW.PrintMore
open Go.Proofs.Ytoncignjcgjhhaa.Q
theorem SchedPeriods (s : Sp) (hw : wfL s.l) : Ev (fun q => tenorlaw8_SchedPeriods.f q s.a s.b s.n s.u s.st s.ro s.cv s.lag s.we s.l) true := by
 have ha : Ev (fun k => (tenorlaw8_awake.f k).bind fun t => some t) true := Ev.bind awake8 (Ev.now _)
 have hs : ∃ t, Ev (fun q => tenorlaw8_small.f q s.a s.b s.n s.u s.st s.ro s.cv s.lag s.we s.l) t := by
  have hj : ∀ x, ∃ t, Ev (fun q => tenorlaw8_small.j0 q x s.a s.b s.n s.u s.st s.ro s.cv s.lag s.we s.l) t := by
   intro x
   have hex : ∃ t : Bool, ∀ q, tenorlaw8_small.j0 (q + 1) x s.a s.b s.n s.u s.st s.ro s.cv s.lag s.we s.l = some t := by
    simp only [tenorlaw8_small.j0]
    repeat' split
    all_goals exact ⟨_, fun _ => rfl⟩
   obtain ⟨t, ht⟩ := hex
   exact ⟨t, Ev.step ht (Ev.now _)⟩
  obtain ⟨t1, h1⟩ := hj true
  obtain ⟨t2, h2⟩ := hj (decide (s.a > s.b))
  unfold tenorlaw8_small.f
  repeat' split
  ·
   exact ⟨_, Ev.now _⟩
  all_goals first | exact ⟨_, h1⟩ | exact ⟨_, h2⟩
 obtain ⟨t, ht⟩ := hs
 refine Ev.congr (fun q => by unfold tenorlaw8_SchedPeriods.f; rfl) (Ev.bind ht ?_)
 refine ev_ite (fun _ => ?_) (fun _ => ha)
 refine Ev.bind (sPeriods s hw) (Ev.bind (rPeriods s) (Ev.bind (samePer _ (periods_len s)) ?_))
 exact Ev.congr (fun q => by rw [if_pos rfl, if_pos rfl]) ha
end Go.Proofs.Ytoncignjcgjhhaa.S
