/- The dates' laws' own try tells true; weekdays in the program and in the document. No condition. -/
import Derived.Test.YtoncignjcgjhhaaDoorZGB
import Derived.Test.YtoncignjcgjhhaaDoorZGC
import Derived.Test.YtoncignjcgjhhaaDoorZGD
set_option linter.unusedVariables false
set_option linter.unusedSimpArgs false
namespace Go.Proofs.YtoncignjcgjhhaaDoor.D
open Go.RowKit Go.Proofs.YtoncignjcgjhhaaDoorW.PrintWords Go.Proofs.YtoncignjcgjhhaaDoorW.PrintLast Go.Proofs.YtoncignjcgjhhaaDoorW.PrintMore
open Go.Proofs.YtoncignjcgjhhaaDoor.Q
open Go.Proofs.YtoncignjcgjhhaaDoor.L (w64 td tm tm0)
theorem ev_ite {α : Type} {p : Prop} [Decidable p] {g h : Nat → Option α} {r : α} (h1 : p → Ev g r) (h2 : ¬ p → Ev h r) : Ev (fun q => if p then g q else h q) r := by
 by_cases hp : p
 ·
  exact Ev.congr (fun q => if_pos hp) (h1 hp)
 ·
  exact Ev.congr (fun q => if_neg hp) (h2 hp)
def easterText : ByteArray := ⟨#[50, 48, 50, 53, 45, 48, 52, 45, 50, 48]⟩
theorem okE : T.okT easterText := ⟨rfl, by decide⟩
theorem parse_ok {s : ByteArray} (h : T.okT s) : Ev (fun k => date_Parse.f k s) (if M.isDate (T.numT s 0 4) (T.numT s 5 7) (T.numT s 8 10) then (M.dayOf (T.numT s 0 4) (T.numT s 5 7) (T.numT s 8 10), 0) else (0, 50)) := by
 refine Ev.congr (fun k => ?_) (L.Of (T.numT s 0 4) (T.numT s 5 7) (T.numT s 8 10))
 show H.parseF k s = _
 unfold H.parseF
 rw [if_pos h]
theorem parse_bad {s : ByteArray} (h : ¬ T.okT s) : Ev (fun k => date_Parse.f k s) ((0, 50) : Int × Int) := by
 refine Ev.congr (f := fun _ => some ((0, 50) : Int × Int)) (fun k => ?_) (Ev.now _)
 show H.parseF k s = _
 unfold H.parseF
 rw [if_neg h]
def wday (n : Int) : Int × Int := if 0 ≤ n ∧ n ≤ 109572 then (n % 7, 0) else (0, 51)
theorem sWeekday (n : Int) : date_Weekday.f n = some (wday n) := by
 unfold date_Weekday.f wday
 rw [L.dis, Option.bind_some]
 by_cases h : 0 ≤ n ∧ n ≤ 109572
 ·
  rw [decide_eq_true h, if_pos rfl, if_pos h, tm h.1]
 ·
  rw [decide_eq_false h, if_neg (by decide), if_neg h]
theorem rWeekday (n : Int) : tenorref5_Weekday.f n = some (wday n) := by
 unfold tenorref5_Weekday.f wday
 by_cases h0 : n < 0
 ·
  rw [if_pos h0, if_neg (by omega)]
 ·
  rw [if_neg h0]
  by_cases h1 : n > 109572
  ·
   rw [if_pos h1, if_neg (by omega)]
  ·
   rw [if_neg h1, if_pos (by omega), tm (by omega)]
theorem awake5 : Ev (fun k => tenorlaw5_awake.f k) true := by
 have h1 := L.Of 1970 1 1
 rw [if_pos (show M.isDate 1970 1 1 by unfold M.isDate; decide)] at h1
 have h2 := parse_ok okE
 have e1 : T.numT easterText 0 4 = 2025 := by decide
 have e2 : T.numT easterText 5 7 = 4 := by decide
 have e3 : T.numT easterText 8 10 = 20 := by decide
 rw [e1, e2, e3, if_pos (show M.isDate ((2025 : Nat) : Int) ((4 : Nat) : Int) ((20 : Nat) : Int) by unfold M.isDate; decide)] at h2
 refine Ev.congr (fun k => by unfold tenorlaw5_awake.f; rfl) (Ev.bind h1 ?_)
 refine Ev.congr (fun k => by rw [sWeekday, Option.bind_some, date_Easter.f, Option.bind_some]) ?_
 refine Ev.bind h2 ?_
 refine Ev.congr (f := fun _ => some true) (fun k => ?_) (Ev.now _)
 decide +kernel
theorem awk : Ev (fun k => (tenorlaw5_awake.f k).bind fun t => some t) true := Ev.bind awake5 (Ev.now _)
theorem DateCivil (y m d n : Int) : Ev (fun k => tenorlaw5_DateCivil.f k y m d n) true := by
 refine Ev.congr (fun k => by unfold tenorlaw5_DateCivil.f; rw [L.Length, Option.bind_some]) ?_
 refine Ev.bind (R.Length y m) (Ev.bind (L.Of y m d) (Ev.bind (R.Of y m d) (Ev.bind (L.Civil n) (Ev.bind (R.Civil n) ?_))))
 refine Ev.congr (fun k => ?_) awk
 rw [sWeekday, Option.bind_some, rWeekday, Option.bind_some, L.leap, Option.bind_some, R.Leap, Option.bind_some, if_pos (beq_self_eq_true _)]
 repeat rw [if_pos rfl]
end Go.Proofs.YtoncignjcgjhhaaDoor.D
