/- The law of Easter and third Wednesdays there and back, over the functions that the walk computes. No condition. -/
import Derived.Test.YtoncignjcgjhhaaDoorZPureD0
import Derived.Test.YtoncignjcgjhhaaDoorZMonths
import Derived.Test.YtoncignjcgjhhaaDoorZQx19
import Derived.Test.YtoncignjcgjhhaaDoorZV
set_option linter.unusedVariables false
set_option linter.unusedSimpArgs false
namespace Go.Proofs.YtoncignjcgjhhaaDoor.D
open Go.RowKit Go.Proofs.YtoncignjcgjhhaaDoorW.PrintWords Go.Proofs.YtoncignjcgjhhaaDoorW.PrintLast Go.Proofs.YtoncignjcgjhhaaDoorW.PrintMore
open Go.Proofs.YtoncignjcgjhhaaDoor.Q
open Go.Proofs.YtoncignjcgjhhaaDoor.L (w64 td tm tm0)
theorem third_spec {y m : Int} (h : 1900 ≤ y ∧ y ≤ 2199 ∧ 1 ≤ m ∧ m ≤ 12) : 0 ≤ M.third y m ∧ M.third y m ≤ 109572 ∧ M.third y m % 7 = 2 ∧ M.civY (M.third y m) = y ∧ M.civM (M.third y m) = m ∧ 15 ≤ M.civD (M.third y m) ∧ M.civD (M.third y m) ≤ 21 := by
 have hl := M.mlen_rng y m
 have e : M.third y m = M.dayOf y m (15 + (9 - M.dayOf y m 15 % 7) % 7) := by unfold M.third M.dayOf; omega
 have hd : M.isDate y m (15 + (9 - M.dayOf y m 15 % 7) % 7) := by unfold M.isDate; omega
 have hr := M.day_rng hd
 obtain ⟨a, b, c⟩ := M.civ_unique hd rfl
 rw [← e] at hr a b c
 refine ⟨hr.1, hr.2.1, ?_, a, b, by rw [c]; omega, by rw [c]; omega⟩
 have h15 := M.day_rng (M.d15 h)
 unfold M.third; omega
theorem Easter_j1_bad (y m n : Int) : Ev (fun q => tenorlaw5_DateEaster.j1 q y m n 50) true :=
  Ev.step (fun q => by rw [tenorlaw5_DateEaster.j1, if_neg (by decide)]) awk
theorem Easter_j1_ok {y m : Int} (h : 1900 ≤ y ∧ y ≤ 2199 ∧ 1 ≤ m ∧ m ≤ 12) : Ev (fun q => tenorlaw5_DateEaster.j1 q y m (M.third y m) 0) true := by
 obtain ⟨a, b, c, d, e, f, g⟩ := third_spec h
 have hc := L.Civil (M.third y m)
 rw [if_pos ⟨a, b⟩] at hc
 refine Ev.step (fun q => by rw [tenorlaw5_DateEaster.j1, if_pos rfl, sWeekday, Option.bind_some]) (Ev.bind hc ?_)
 refine Ev.congr (fun q => ?_) awk
 have hw : wday (M.third y m) = (M.third y m % 7, 0) := if_pos ⟨a, b⟩
 rw [hw]
 rw [if_pos c, if_pos d, if_pos e, if_neg (show ¬ M.civD (M.third y m) < 15 by omega), if_neg (show ¬ M.civD (M.third y m) > 21 by omega)]
theorem Easter_j0 (y m : Int) (n e2 : Int) (hj : Ev (fun q => tenorlaw5_DateEaster.j1 q y m n e2) true) :
  Ev (fun q => tenorlaw5_DateEaster.j0 q y m (H.easterF y).1 (H.easterF y).2 n e2 false) true := by
 unfold H.easterF
 by_cases h : 1900 ≤ y ∧ y ≤ 2199
 ·
  rw [if_pos h]
  obtain ⟨s1, s2, s3, s4⟩ := M.easter_spec y h.1 h.2
  have hr : 0 ≤ M.easterDay y ∧ M.easterDay y ≤ 109572 := by have := M.day_rng s1; exact ⟨this.1, this.2.1⟩
  have o1 := L.Of y 3 22;have o2 := L.Of y 4 25;have l1 := M.mlen_rng y 3;have l2 := M.mlen_rng y 4
  rw [if_pos (by unfold M.isDate; omega)] at o1
  rw [if_pos (by unfold M.isDate; omega)] at o2
  refine Ev.step (fun q => by rw [tenorlaw5_DateEaster.j0, if_neg (by decide), if_pos rfl, sWeekday, Option.bind_some]) (Ev.bind o1 (Ev.bind o2 ?_))
  refine Ev.congr (fun q => ?_) hj
  have hw : wday (M.easterDay y) = (M.easterDay y % 7, 0) := if_pos hr
  rw [hw]
  rw [if_pos s4, if_neg (by show ¬ M.easterDay y < M.dayOf y 3 22; omega), if_neg (by show ¬ M.easterDay y > M.dayOf y 4 25; omega)]
 ·
  rw [if_neg h]
  exact Ev.step (fun q => by rw [tenorlaw5_DateEaster.j0, if_neg (by decide), if_neg (by decide)]) hj
theorem DateEaster (y m : Int) : Ev (fun q => tenorlaw5_DateEaster.f q y m) true := by
 refine Ev.congr (fun q => by unfold tenorlaw5_DateEaster.f; rw [date_Easter.f, Option.bind_some]) (Ev.bind (L.Third y m) ?_)
 by_cases h : 1900 ≤ y ∧ y ≤ 2199
 ·
  have he : (H.easterF y).2 = 0 := by unfold H.easterF; rw [if_pos h]
  refine Ev.congr (fun q => by rw [if_pos (show y ≥ 1900 from h.1), if_neg (by rw [he, decide_eq_true h.2]; decide), if_pos h.2]) ?_
  by_cases h1 : 1 ≤ m
  ·
   refine Ev.congr (fun q => if_pos h1) ?_
   by_cases h2 : m ≤ 12
   ·
    rw [if_pos ⟨h.1, h.2, h1, h2⟩, decide_eq_true h2]
    exact Easter_j0 y m _ _ (Easter_j1_ok ⟨h.1, h.2, h1, h2⟩)
   ·
    rw [if_neg (fun hh => h2 hh.2.2.2), decide_eq_false h2]
    exact Easter_j0 y m _ _ (Easter_j1_bad y m _)
  ·
   refine Ev.congr (fun q => if_neg h1) ?_
   rw [if_neg (fun hh => h1 hh.2.2.1)]
   exact Easter_j0 y m _ _ (Easter_j1_bad y m _)
 ·
  have he : (H.easterF y).2 = 50 := by unfold H.easterF; rw [if_neg h]
  rw [if_neg (fun hh : 1900 ≤ y ∧ y ≤ 2199 ∧ 1 ≤ m ∧ m ≤ 12 => h ⟨hh.1, hh.2.1⟩)]
  have hj := Easter_j0 y m 0 50 (Easter_j1_bad y m 0)
  by_cases h0 : 1900 ≤ y
  ·
   refine Ev.congr (fun q => by rw [if_pos (show y ≥ 1900 from h0), if_neg (by rw [he, decide_eq_false (fun hh => h ⟨h0, hh⟩)]; decide), if_neg (fun hh => h ⟨h0, hh⟩)]) ?_
   exact hj
  ·
   refine Ev.congr (fun q => by rw [if_neg (show ¬ y ≥ 1900 from h0), if_neg (by rw [he]; decide)]) ?_
   exact hj
end Go.Proofs.YtoncignjcgjhhaaDoor.D
