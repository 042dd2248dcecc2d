/- The law of days, dates and texts there and back, over the functions that the walk computes. No condition. -/
import Derived.Test.YtoncignjcgjhhaaDoorZBackC
import Derived.Test.YtoncignjcgjhhaaDoorZBackT
import Derived.Test.YtoncignjcgjhhaaDoorZQDateBack
import Derived.Test.YtoncignjcgjhhaaDoorZU
set_option linter.unusedVariables false
set_option linter.unusedSimpArgs false
namespace Go.Proofs.YtoncignjcgjhhaaDoor.D
open Go.RowKit Go.Proofs.YtoncignjcgjhhaaDoorW.PrintWords Go.Proofs.YtoncignjcgjhhaaDoorW.PrintLast Go.Proofs.YtoncignjcgjhhaaDoorW.PrintMore
open Go.Proofs.YtoncignjcgjhhaaDoor.Q
open Go.Proofs.YtoncignjcgjhhaaDoor.L (w64 td tm tm0)
theorem last_civ : M.civY 109572 = 2199 ∧ M.civM 109572 = 12 ∧ M.civD 109572 = 31 :=
  M.civ_unique (y := 2199) (m := 12) (d := 31) (n := 109572) (by unfold M.isDate; decide) (by decide)
theorem day_end : Ev (fun k => (tenorlaw5_awake.f k).bind fun t => some t) true := awk
theorem Back_j0 {n : Int} (hn : 0 ≤ n ∧ n ≤ 109572) : Ev (fun q => tenorlaw5_DateBack.j0 q n (M.civY n) (M.civM n) (M.civD n) false) true := by
 refine Ev.step (fun q => by rw [tenorlaw5_DateBack.j0, if_neg (by decide)]) ?_
 by_cases h9 : n = 109572
 ·
  subst h9
  obtain ⟨a, b, c⟩ := last_civ
  refine Ev.congr (fun q => ?_) awk
  rw [if_pos rfl, if_pos a, if_pos b, if_pos c]
 ·
  refine Ev.congr (fun q => if_neg h9) ?_
  obtain ⟨⟨p1, p2, p3, p4, p5, p6⟩, _⟩ := M.civ_spec n hn.1 hn.2
  have ml := M.mlen_rng (M.civY n) (M.civM n)
  have e1 : wrap64 (n + 1) = n + 1 := w64 (by omega) (by omega)
  have hc := L.Civil (n + 1)
  rw [if_pos (by omega)] at hc
  refine Ev.congr (fun q => by rw [e1]) (Ev.bind hc ?_)
  refine Ev.congr (fun q => by rw [L.Length, Option.bind_some, if_pos ⟨p1, p2, p3, p4⟩, sWeekday, Option.bind_some, sWeekday, Option.bind_some, wday, if_pos hn, wday, if_pos (show 0 ≤ n + 1 ∧ n + 1 ≤ 109572 by omega)]) ?_
  have ew : (n + 1) % 7 = Int.tmod (wrap64 (n % 7 + 1)) 7 := by rw [w64 (by omega) (by omega), tm (by omega)]; omega
  refine Ev.congr (fun q => by rw [if_pos rfl, if_pos rfl, if_pos rfl, if_pos rfl, if_pos ew]) ?_
  have wY : wrap64 (M.civY n + 1) = M.civY n + 1 := w64 (by omega) (by omega)
  have wM : wrap64 (M.civM n + 1) = M.civM n + 1 := w64 (by omega) (by omega)
  have wD : wrap64 (M.civD n + 1) = M.civD n + 1 := w64 (by omega) (by omega)
  rw [wY, wM, wD]
  rcases M.civ_next hn.1 (by omega) with ⟨q1, q2, q3, q4⟩ | ⟨q1, q2, q3, q4⟩ | ⟨q1, q2, q3, q4, q5⟩
  ·
   refine Ev.congr (fun q => ?_) awk
   have c4 : ¬ M.civM (n + 1) = M.civM n + 1 := by omega
   have c6 : ¬ M.civY (n + 1) = M.civY n + 1 := by omega
   simp only [if_pos q1, if_pos q2, if_pos q3, if_neg c4, if_neg c6, if_pos q4]
  ·
   refine Ev.congr (fun q => ?_) awk
   have c2 : ¬ M.civM (n + 1) = M.civM n := by omega
   have c6 : ¬ M.civY (n + 1) = M.civY n + 1 := by omega
   simp only [if_pos q1, if_neg c2, if_pos q2, if_pos q3, if_neg c6, if_pos q4]
  ·
   refine Ev.congr (fun q => ?_) awk
   have c1 : ¬ M.civY (n + 1) = M.civY n := by omega
   simp only [if_neg c1, if_pos q1, if_pos q2, if_pos q3, if_pos q4, if_pos q5]
theorem DateBack (n : Int) : Ev (fun q => tenorlaw5_DateBack.f q n) true := by
 refine Ev.congr (fun q => by unfold tenorlaw5_DateBack.f; rw [isDay, Option.bind_some]) ?_
 have hc := L.Civil n
 by_cases hn : 0 ≤ n ∧ n ≤ 109572
 ·
  rw [if_pos hn] at hc
  obtain ⟨hd, e⟩ := M.civ_spec n hn.1 hn.2
  have ho := L.Of (M.civY n) (M.civM n) (M.civD n)
  rw [if_pos hd, e] at ho
  refine Ev.congr (fun q => if_pos (decide_eq_true hn)) (Ev.bind hc (Ev.bind ho ?_))
  have hp : H.printF n = (T.textOf n, 0) := by unfold H.printF; rw [if_pos hn]
  refine Ev.congr (fun q => by rw [date_Print.f, Option.bind_some, hp]) (Ev.bind (parse_text hn) ?_)
  refine Ev.congr (fun q => ?_) (Back_j0 hn)
  rw [if_pos rfl, if_pos rfl, if_pos rfl, if_pos rfl, if_pos rfl, show ((n != n) : Bool) = false by simp]
 ·
  rw [if_neg hn] at hc
  refine Ev.congr (fun q => if_neg (by rw [decide_eq_false hn]; decide)) (Ev.bind hc ?_)
  have hp : H.printF n = (⟨#[]⟩, 51) := by unfold H.printF; rw [if_neg hn]
  refine Ev.congr (fun q => ?_) awk
  rw [date_Print.f, Option.bind_some, hp, if_pos rfl, if_pos rfl]
end Go.Proofs.YtoncignjcgjhhaaDoor.D
