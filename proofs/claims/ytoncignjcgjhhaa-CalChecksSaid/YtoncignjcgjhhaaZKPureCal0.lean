/- The statements of calendars, without any program in sight: what the program tells is what the document tells. Condition: the rules' numbers and the arguments are of 64 bits. -/
import Derived.Test.YtoncignjcgjhhaaZKQx49a
import Derived.Test.YtoncignjcgjhhaaZGF
import Derived.Test.YtoncignjcgjhhaaZKBookH
import Derived.Test.YtoncignjcgjhhaaZK
set_option linter.unusedVariables false
set_option linter.unusedSimpArgs false
namespace Go.Proofs.Ytoncignjcgjhhaa.R
open Go.RowKit Go.Proofs.YtoncignjcgjhhaaW.PrintWords Go.Proofs.YtoncignjcgjhhaaW.PrintLast Go.Proofs.YtoncignjcgjhhaaW.PrintMore
open Go.Proofs.Ytoncignjcgjhhaa.Q
open Go.Proofs.Ytoncignjcgjhhaa.L (w64 td tm tm0)

theorem awake6 : tenorlaw6_awake.f = some true := by decide +kernel
theorem awake6b : ((tenorlaw6_awake.f).bind fun t => some t) = some true := by rw [awake6]; rfl

theorem cHoliday {l : List S63} (hw : wfL l) (we n : Int) : cal_Holiday.f we l n = some (M.Holiday we (l.map H.ru) n) := if_pos hw
theorem cOpen {l : List S63} (hw : wfL l) (we n : Int) : cal_Open.f we l n = some (M.Open we (l.map H.ru) n) := if_pos hw
theorem cAdjust {l : List S63} (hw : wfL l) (we n k : Int) : cal_Adjust.f we l n k = some (M.Adjust we (l.map H.ru) n k) := if_pos hw
theorem cAdd {l : List S63} (hw : wfL l) (we n k : Int) (hk : L.i64 k) : cal_Add.f we l n k = some (M.Add we (l.map H.ru) n k) := if_pos ⟨hw, hk⟩
theorem cCount {l : List S63} (hw : wfL l) (we n k : Int) : cal_Count.f we l n k = some (M.Count we (l.map H.ru) n k) := if_pos hw

end Go.Proofs.Ytoncignjcgjhhaa.R
