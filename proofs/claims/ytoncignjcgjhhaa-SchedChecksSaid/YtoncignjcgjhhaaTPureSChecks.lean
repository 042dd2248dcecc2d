/- The statement of what is wrong with a schedule: all calls answer it. Condition: the rules' numbers are of 64 bits. -/
import Derived.Test.YtoncignjcgjhhaaTSchP
import Derived.Test.YtoncignjcgjhhaaTSchB
import Derived.Test.YtoncignjcgjhhaaTSchC
import Derived.Test.YtoncignjcgjhhaaTGK
import Derived.Test.YtoncignjcgjhhaaTQx84a
set_option linter.unusedVariables false
set_option linter.unusedSimpArgs false
namespace Go.Proofs.Ytoncignjcgjhhaa.S
open Go.RowKit Go.Proofs.YtoncignjcgjhhaaW.PrintWords Go.Proofs.YtoncignjcgjhhaaW.PrintLast Go.Proofs.YtoncignjcgjhhaaW.PrintMore
open Go.Proofs.Ytoncignjcgjhhaa.Q
theorem dates_bad {s : Sp} (h : ¬ s.chk = 0) : s.dates = ([], s.chk) := by unfold Sp.dates; rw [if_neg h]
theorem sPeriods_bad (s : Sp) (hw : wfL s.l) (h : ¬ s.chk = 0) : Ev (fun q => sched_Periods.f q s.a s.b s.n s.u s.st s.ro s.cv s.lag s.we s.l) (([] : List S81), s.chk) := by
 have hd := sDates s hw
 rw [dates_bad h] at hd
 exact Ev.congr (fun q => by unfold sched_Periods.f; rfl) (Ev.bind hd (Ev.congr (fun q => if_neg h) (Ev.now _)))
theorem SchedChecks (s : Sp) (hw : wfL s.l) : Ev (fun q => tenorlaw8_SchedChecks.f q s.a s.b s.n s.u s.st s.ro s.cv s.lag s.we s.l) true := by
 have ha : Ev (fun k => (tenorlaw8_awake.f k).bind fun t => some t) true := Ev.bind awake8 (Ev.now _)
 refine Ev.congr (fun q => by unfold tenorlaw8_SchedChecks.f; rfl) (ev_ite (fun _ => ha) (fun _ => ?_))
 refine Ev.bind (sCheck s hw) (Ev.bind (rCheck s) ?_)
 refine Ev.congr (fun q => if_pos rfl) (ev_ite (fun _ => ha) (fun h => ?_))
 have hd := sDates s hw
 rw [dates_bad h] at hd
 have hp := sPointF s s.a 1 hw
 unfold Sp.point at hp
 rw [if_neg h] at hp
 refine Ev.bind hd (Ev.bind (sPeriods_bad s hw h) (Ev.bind hp ?_))
 exact Ev.congr (fun q => by rw [if_pos (show wrap64 ((([] : List Int).length : Int) + (([] : List S81).length : Int)) = 0 by unfold wrap64; simp), if_pos rfl, if_pos rfl, if_pos rfl, if_neg (by decide)]) ha
end Go.Proofs.Ytoncignjcgjhhaa.S
