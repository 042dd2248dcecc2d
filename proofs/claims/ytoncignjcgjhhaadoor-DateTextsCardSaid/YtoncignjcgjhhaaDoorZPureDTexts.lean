/- The law of the texts, over the functions that the walk computes: what the program parses and prints is what the document does. No condition. -/
import Derived.Test.YtoncignjcgjhhaaDoorZRefP
import Derived.Test.YtoncignjcgjhhaaDoorZQDateTexts
import Derived.Test.YtoncignjcgjhhaaDoorZU
set_option linter.unusedVariables false
set_option linter.unusedSimpArgs false
namespace Go.Proofs.YtoncignjcgjhhaaDoor.D
open Go.RowKit Go.Proofs.YtoncignjcgjhhaaDoorW.PrintWords Go.Proofs.YtoncignjcgjhhaaDoorW.PrintLast Go.Proofs.YtoncignjcgjhhaaDoorW.PrintMore
open Go.Proofs.YtoncignjcgjhhaaDoor.Q
theorem sParse (s : ByteArray) : Ev (fun k => date_Parse.f k s) (R.parseV s) := by
 unfold R.parseV
 by_cases h : T.okT s
 ·
  rw [if_pos h]; exact parse_ok h
 ·
  rw [if_neg h]; exact parse_bad h
theorem DateTexts (s : ByteArray) (n : Int) : Ev (fun k => tenorlaw5_DateTexts.f k s n) true := by
 refine Ev.congr (fun k => by unfold tenorlaw5_DateTexts.f; rfl) (Ev.bind (sParse s) (Ev.bind (R.Parse s) ?_))
 refine Ev.congr (fun k => by rw [date_Print.f, Option.bind_some]) (Ev.bind (R.Print n) ?_)
 refine Ev.congr (fun k => ?_) awk
 rw [if_pos rfl, if_pos rfl, if_pos rfl, if_pos rfl]
end Go.Proofs.YtoncignjcgjhhaaDoor.D
