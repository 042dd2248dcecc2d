/- The statement of a schedule's points: the program's are the document's. Condition: the rules' numbers are of 64 bits. -/
import Derived.Test.YtoncignjcgjhhaaTSchP
import Derived.Test.YtoncignjcgjhhaaTSchB
import Derived.Test.YtoncignjcgjhhaaTGK
import Derived.Test.YtoncignjcgjhhaaTQx84b
set_option linter.unusedVariables false
set_option linter.unusedSimpArgs false
namespace Go.Proofs.Ytoncignjcgjhhaa.S
open Go.RowKit Go.Proofs.YtoncignjcgjhhaaW.PrintWords Go.Proofs.YtoncignjcgjhhaaW.PrintLast Go.Proofs.YtoncignjcgjhhaaW.PrintMore
open Go.Proofs.Ytoncignjcgjhhaa.Q
theorem rPointF (s : Sp) (x k : Int) : Ev (fun q => tenorref8_Point.f q s.a s.b s.n s.u s.st s.ro s.cv s.lag s.we s.l x k) (s.point x k) := by
 refine Ev.congr (fun q => by unfold tenorref8_Point.f; rfl) (Ev.bind (rCheck s) ?_)
 unfold Sp.point
 by_cases hc : s.chk = 0
 ·
  rw [if_pos hc]
  exact Ev.congr (fun q => if_pos hc) (Ev.bind (rPoint s x k (chk_fit0 hc).2) (Ev.now _))
 ·
  rw [if_neg hc]
  exact Ev.congr (fun q => if_neg hc) (Ev.now _)
theorem SchedPoints (s : Sp) (x k : Int) (hw : wfL s.l) : Ev (fun q => tenorlaw8_SchedPoints.f q s.a s.b s.n s.u s.st s.ro s.cv s.lag s.we s.l x k) true := by
 have ha : Ev (fun k => (tenorlaw8_awake.f k).bind fun t => some t) true := Ev.bind awake8 (Ev.now _)
 refine Ev.congr (fun q => by unfold tenorlaw8_SchedPoints.f; rfl) (ev_ite (fun _ => ha) (fun _ => ?_))
 refine Ev.bind (sPointF s x k hw) (Ev.bind (rPointF s x k) ?_)
 exact Ev.congr (fun q => by rw [if_pos rfl, if_pos (beq_self_eq_true _)]) ha
end Go.Proofs.Ytoncignjcgjhhaa.S
