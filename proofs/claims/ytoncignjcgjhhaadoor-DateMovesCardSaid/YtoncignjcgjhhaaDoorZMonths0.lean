/- Months on and third Wednesdays, of the program. No condition but on the sizes told. -/
import Derived.Test.YtoncignjcgjhhaaDoorZGB
import Derived.Test.YtoncignjcgjhhaaDoorZGD
import Derived.Test.YtoncignjcgjhhaaDoorZQx15
import Derived.Test.YtoncignjcgjhhaaDoorZV
set_option linter.unusedVariables false
set_option linter.unusedSimpArgs false
namespace Go.Proofs.YtoncignjcgjhhaaDoor.M
def mAt (n k : Int) : Int := 12 * civY n + civM n - 1 + k
def monthsDay (n k : Int) (e : Bool) : Int :=
  if civD n > mlen (mAt n k / 12) (mAt n k % 12 + 1) then mlen (mAt n k / 12) (mAt n k % 12 + 1)
  else if e = true ∧ civD n = mlen (civY n) (civM n) then mlen (mAt n k / 12) (mAt n k % 12 + 1) else civD n
def monthsOk (n k : Int) : Prop := -4000 ≤ k ∧ k ≤ 4000 ∧ 22800 ≤ mAt n k ∧ mAt n k ≤ 26399
instance monthsOkDec (n k : Int) : Decidable (monthsOk n k) := inferInstanceAs (Decidable (_ ∧ _))
def months (n k : Int) (e : Bool) : Int × Int :=
  if 0 ≤ n ∧ n ≤ 109572 then (if monthsOk n k then (dayOf (mAt n k / 12) (mAt n k % 12 + 1) (monthsDay n k e), 0) else (0, 51)) else (0, 51)
def third (y m : Int) : Int := dayOf y m 15 + (9 - dayOf y m 15 % 7) % 7
theorem mAt_rng {n k : Int} (h : monthsOk n k) : 1900 ≤ mAt n k / 12 ∧ mAt n k / 12 ≤ 2199 ∧ 1 ≤ mAt n k % 12 + 1 ∧ mAt n k % 12 + 1 ≤ 12 := by
  unfold monthsOk at h; omega
theorem monthsDay_rng {n k : Int} (e : Bool) (hn : 0 ≤ n ∧ n ≤ 109572) : 1 ≤ monthsDay n k e ∧ monthsDay n k e ≤ mlen (mAt n k / 12) (mAt n k % 12 + 1) := by
 have h := (civ_spec n hn.1 hn.2).1
 have l := mlen_rng (mAt n k / 12) (mAt n k % 12 + 1)
 unfold isDate at h
 unfold monthsDay
 split
 ·
  omega
 ·
  split <;> omega
theorem monthsDate {n k : Int} (e : Bool) (hn : 0 ≤ n ∧ n ≤ 109572) (h : monthsOk n k) : isDate (mAt n k / 12) (mAt n k % 12 + 1) (monthsDay n k e) := by
  have a := mAt_rng h; have b := monthsDay_rng e hn (k := k)
  exact ⟨a.1, a.2.1, a.2.2.1, a.2.2.2, b.1, b.2⟩
theorem d15 {y m : Int} (h : 1900 ≤ y ∧ y ≤ 2199 ∧ 1 ≤ m ∧ m ≤ 12) : isDate y m 15 := by
  have := mlen_rng y m; unfold isDate; omega
end Go.Proofs.YtoncignjcgjhhaaDoor.M
namespace Go.Proofs.YtoncignjcgjhhaaDoor.L
open Go.RowKit Go.Proofs.YtoncignjcgjhhaaDoorW.PrintWords Go.Proofs.YtoncignjcgjhhaaDoorW.PrintLast Go.Proofs.YtoncignjcgjhhaaDoorW.PrintMore
open Go.Proofs.YtoncignjcgjhhaaDoor.Q
theorem dmonth (y m : Int) : date_month.f y m = some (decide (1900 ≤ y ∧ y ≤ 2199 ∧ 1 ≤ m ∧ m ≤ 12)) := by
 unfold date_month.f
 repeat' split
 all_goals first | (congr 1; rw [decide_eq_decide]; omega) | (congr 1; symm; rw [decide_eq_false_iff_not]; omega)
theorem Months_j0t (n k : Int) (e : Bool) : Ev (fun q => date_Months.j0 q n k e true) ((0, 51) : Int × Int) :=
  Ev.step (f := fun _ => some ((0, 51) : Int × Int)) (fun q => by rw [date_Months.j0, if_pos rfl]) (Ev.now _)
theorem Months_j0f (n k : Int) (e : Bool) (hn : 0 ≤ n ∧ n ≤ 109572) (h0 : -4000 ≤ k) (h1 : k ≤ 4000) :
  Ev (fun q => date_Months.j0 q n k e false) (if M.monthsOk n k then (M.dayOf (M.mAt n k / 12) (M.mAt n k % 12 + 1) (M.monthsDay n k e), 0) else ((0, 51) : Int × Int)) := by
 have hs := (M.civ_spec n hn.1 hn.2).1
 unfold M.isDate at hs
 have hm : 0 ≤ M.mAt n k := by unfold M.mAt; omega
 have hm2 : M.mAt n k ≤ 40000 := by unfold M.mAt; omega
 have e1 : wrap64 (wrap64 (wrap64 (wrap64 (12 * M.civY n) + M.civM n) - 1) + k) = M.mAt n k := by
  unfold M.mAt
  rw [w64 (x := 12 * M.civY n) (by omega) (by omega), w64 (x := 12 * M.civY n + M.civM n) (by omega) (by omega), w64 (x := 12 * M.civY n + M.civM n - 1) (by omega) (by omega), w64 (by omega) (by omega)]
 have e2 : wrap64 (Int.tdiv (M.mAt n k) 12) = M.mAt n k / 12 := by rw [td hm, w64 (by omega) (by omega)]
 have e3 : wrap64 (Int.tmod (M.mAt n k) 12 + 1) = M.mAt n k % 12 + 1 := by rw [tm hm, w64 (by omega) (by omega)]
 have hstep : ∀ q, date_Months.j0 (q + 1) n k e false = (date_civil.f q n).bind fun (bt721 : Int × Int × Int) => _ := fun q => by rw [date_Months.j0, if_neg (by decide)]
 refine Ev.step hstep (Ev.bind (civil n hn.1 hn.2) ?_)
 clear hstep
 have hl := M.mlen_rng (M.mAt n k / 12) (M.mAt n k % 12 + 1)
 by_cases ho : M.monthsOk n k
 ·
  rw [if_pos ho]
  have hr := M.mAt_rng ho
  have hd : ∀ d : Int, 1 ≤ d → d ≤ 31 → Ev (fun q => (date_day.f q (M.mAt n k / 12) (M.mAt n k % 12 + 1) d).bind fun t => some (t, (0 : Int))) (M.dayOf (M.mAt n k / 12) (M.mAt n k % 12 + 1) d, 0) :=
   fun d a b => Ev.bind (day _ _ d (by omega) (by omega) (by omega) (by omega) (by omega) (by omega)) (Ev.now _)
  refine Ev.congr (fun q => by simp only [e1, e2, e3, length, Option.bind_some, dmonth]; rw [decide_eq_true hr, if_pos rfl]) ?_
  unfold M.monthsDay
  by_cases c1 : M.civD n > M.mlen (M.mAt n k / 12) (M.mAt n k % 12 + 1)
  ·
   rw [if_pos c1]
   exact Ev.congr (fun q => if_pos c1) (hd _ (by omega) (by omega))
  ·
   rw [if_neg c1]
   refine Ev.congr (fun q => if_neg c1) ?_
   cases e with
   | true =>
    refine Ev.congr (fun q => if_pos rfl) ?_
    by_cases c2 : M.civD n = M.mlen (M.civY n) (M.civM n)
    ·
     rw [if_pos ⟨rfl, c2⟩]
     exact Ev.congr (fun q => if_pos c2) (hd _ (by omega) (by omega))
    ·
     rw [if_neg (fun h => c2 h.2)]
     exact Ev.congr (fun q => if_neg c2) (hd _ (by omega) (by omega))
   | false =>
    rw [if_neg (fun h => absurd h.1 (by decide))]
    exact Ev.congr (fun q => if_neg (by decide)) (hd _ (by omega) (by omega))
 ·
  rw [if_neg ho]
  refine Ev.congr (fun q => ?_) (Ev.now _)
  have hr : ¬ (1900 ≤ M.mAt n k / 12 ∧ M.mAt n k / 12 ≤ 2199 ∧ 1 ≤ M.mAt n k % 12 + 1 ∧ M.mAt n k % 12 + 1 ≤ 12) := by
   intro h; apply ho; unfold M.monthsOk; omega
  simp only [e1, e2, e3, length, Option.bind_some, dmonth]
  rw [decide_eq_false hr, if_neg (by decide)]
theorem Months (n k : Int) (e : Bool) : Ev (fun q => date_Months.f q n k e) (M.months n k e) := by
 unfold M.months
 refine Ev.congr (fun q => by unfold date_Months.f; rw [dis, Option.bind_some]) ?_
 by_cases hn : 0 ≤ n ∧ n ≤ 109572
 ·
  rw [if_pos hn]
  refine Ev.congr (fun q => by rw [decide_eq_true hn, if_pos rfl]) ?_
  by_cases h0 : k < -4000
  ·
   rw [if_neg (fun h => by have := h.1; omega)]
   exact Ev.congr (fun q => if_pos h0) (Months_j0t n k e)
  ·
   refine Ev.congr (fun q => if_neg h0) ?_
   by_cases h1 : k > 4000
   ·
    rw [if_neg (fun h => by have := h.2.1; omega)]
    exact Ev.congr (fun q => by rw [decide_eq_true h1]) (Months_j0t n k e)
   ·
    exact Ev.congr (fun q => by rw [decide_eq_false h1]) (Months_j0f n k e hn (by omega) (by omega))
 ·
  rw [if_neg hn]
  exact Ev.congr (fun q => by rw [decide_eq_false hn, if_neg (by decide)]) (Months_j0t n k e)
theorem Third (y m : Int) : Ev (fun q => date_Third.f q y m) (if 1900 ≤ y ∧ y ≤ 2199 ∧ 1 ≤ m ∧ m ≤ 12 then (M.third y m, 0) else ((0, 50) : Int × Int)) := by
 refine Ev.congr (fun q => by unfold date_Third.f; rw [dmonth, Option.bind_some]) ?_
 by_cases h : 1900 ≤ y ∧ y ≤ 2199 ∧ 1 ≤ m ∧ m ≤ 12
 ·
  rw [if_pos h]
  refine Ev.congr (fun q => by rw [decide_eq_true h, if_pos rfl]) (Ev.bind (day y m 15 (by omega) (by omega) (by omega) (by omega) (by omega) (by omega)) ?_)
  refine Ev.congr (fun q => ?_) (Ev.now _)
  have hr := M.day_rng (M.d15 h)
  unfold M.third
  rw [tm hr.1, w64 (x := 9 - M.dayOf y m 15 % 7) (by omega) (by omega), tm (a := 9 - M.dayOf y m 15 % 7) (by omega), w64 (by omega) (by omega)]
 ·
  rw [if_neg h]
  exact Ev.congr (fun q => by rw [decide_eq_false h, if_neg (by decide)]) (Ev.now _)
end Go.Proofs.YtoncignjcgjhhaaDoor.L
