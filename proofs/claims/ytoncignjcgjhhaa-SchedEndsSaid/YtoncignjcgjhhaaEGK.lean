/- Contracts and facts of functions of the program (calendar, dates and their documents), joined in one text by a program of this session. No condition but what each theorem states. -/
import Derived.Test.YtoncignjcgjhhaaEGC
import Derived.Test.YtoncignjcgjhhaaEGE
import Derived.Test.YtoncignjcgjhhaaEGH
import Derived.Test.YtoncignjcgjhhaaEGD
import Derived.Test.YtoncignjcgjhhaaEGF
import Derived.Test.YtoncignjcgjhhaaEGI
import Derived.Test.YtoncignjcgjhhaaEGJ
import Derived.Test.YtoncignjcgjhhaaRows
import Derived.Lib.SmallJoins
import Derived.Deep.Slices
import Derived.Deep.Fields
import Derived.ChangeSame
import Derived.ProofKit
import Derived.OpenShut
import Derived.ChangeOld
import Derived.SizedLaws
set_option linter.unusedVariables false
set_option linter.unusedSimpArgs false
namespace Go.Proofs.Ytoncignjcgjhhaa.M
def mAt (n k : Int) : Int := 12 * civY n + civM n - 1 + k
def monthsDay (n k : Int) (e : Bool) : Int :=
  if civD n > mlen (mAt n k / 12) (mAt n k % 12 + 1) then mlen (mAt n k / 12) (mAt n k % 12 + 1)
  else if e = true ∧ civD n = mlen (civY n) (civM n) then mlen (mAt n k / 12) (mAt n k % 12 + 1) else civD n
def monthsOk (n k : Int) : Prop := -4000 ≤ k ∧ k ≤ 4000 ∧ 22800 ≤ mAt n k ∧ mAt n k ≤ 26399
instance monthsOkDec (n k : Int) : Decidable (monthsOk n k) := inferInstanceAs (Decidable (_ ∧ _))
def months (n k : Int) (e : Bool) : Int × Int :=
  if 0 ≤ n ∧ n ≤ 109572 then (if monthsOk n k then (dayOf (mAt n k / 12) (mAt n k % 12 + 1) (monthsDay n k e), 0) else (0, 51)) else (0, 51)
def third (y m : Int) : Int := dayOf y m 15 + (9 - dayOf y m 15 % 7) % 7
theorem mAt_rng {n k : Int} (h : monthsOk n k) : 1900 ≤ mAt n k / 12 ∧ mAt n k / 12 ≤ 2199 ∧ 1 ≤ mAt n k % 12 + 1 ∧ mAt n k % 12 + 1 ≤ 12 := by
  unfold monthsOk at h; omega
theorem monthsDay_rng {n k : Int} (e : Bool) (hn : 0 ≤ n ∧ n ≤ 109572) : 1 ≤ monthsDay n k e ∧ monthsDay n k e ≤ mlen (mAt n k / 12) (mAt n k % 12 + 1) := by
 have h := (civ_spec n hn.1 hn.2).1
 have l := mlen_rng (mAt n k / 12) (mAt n k % 12 + 1)
 unfold isDate at h
 unfold monthsDay
 split
 ·
  omega
 ·
  split <;> omega
theorem monthsDate {n k : Int} (e : Bool) (hn : 0 ≤ n ∧ n ≤ 109572) (h : monthsOk n k) : isDate (mAt n k / 12) (mAt n k % 12 + 1) (monthsDay n k e) := by
  have a := mAt_rng h; have b := monthsDay_rng e hn (k := k)
  exact ⟨a.1, a.2.1, a.2.2.1, a.2.2.2, b.1, b.2⟩
theorem d15 {y m : Int} (h : 1900 ≤ y ∧ y ≤ 2199 ∧ 1 ≤ m ∧ m ≤ 12) : isDate y m 15 := by
  have := mlen_rng y m; unfold isDate; omega
end Go.Proofs.Ytoncignjcgjhhaa.M
namespace Go.Proofs.Ytoncignjcgjhhaa.L
open Go.RowKit Go.Proofs.YtoncignjcgjhhaaW.PrintWords Go.Proofs.YtoncignjcgjhhaaW.PrintLast Go.Proofs.YtoncignjcgjhhaaW.PrintMore
open Go.Proofs.Ytoncignjcgjhhaa.Q
theorem dmonth (y m : Int) : date_month.f y m = some (decide (1900 ≤ y ∧ y ≤ 2199 ∧ 1 ≤ m ∧ m ≤ 12)) := by
 unfold date_month.f
 repeat' split
 all_goals first | (congr 1; rw [decide_eq_decide]; omega) | (congr 1; symm; rw [decide_eq_false_iff_not]; omega)
theorem Months_j0t (n k : Int) (e : Bool) : Ev (fun q => date_Months.j0 q n k e true) ((0, 51) : Int × Int) :=
  Ev.step (f := fun _ => some ((0, 51) : Int × Int)) (fun q => by rw [date_Months.j0, if_pos rfl]) (Ev.now _)
theorem Months_j0f (n k : Int) (e : Bool) (hn : 0 ≤ n ∧ n ≤ 109572) (h0 : -4000 ≤ k) (h1 : k ≤ 4000) :
  Ev (fun q => date_Months.j0 q n k e false) (if M.monthsOk n k then (M.dayOf (M.mAt n k / 12) (M.mAt n k % 12 + 1) (M.monthsDay n k e), 0) else ((0, 51) : Int × Int)) := by
 have hs := (M.civ_spec n hn.1 hn.2).1
 unfold M.isDate at hs
 have hm : 0 ≤ M.mAt n k := by unfold M.mAt; omega
 have hm2 : M.mAt n k ≤ 40000 := by unfold M.mAt; omega
 have e1 : wrap64 (wrap64 (wrap64 (wrap64 (12 * M.civY n) + M.civM n) - 1) + k) = M.mAt n k := by
  unfold M.mAt
  rw [w64 (x := 12 * M.civY n) (by omega) (by omega), w64 (x := 12 * M.civY n + M.civM n) (by omega) (by omega), w64 (x := 12 * M.civY n + M.civM n - 1) (by omega) (by omega), w64 (by omega) (by omega)]
 have e2 : wrap64 (Int.tdiv (M.mAt n k) 12) = M.mAt n k / 12 := by rw [td hm, w64 (by omega) (by omega)]
 have e3 : wrap64 (Int.tmod (M.mAt n k) 12 + 1) = M.mAt n k % 12 + 1 := by rw [tm hm, w64 (by omega) (by omega)]
 have hstep : ∀ q, date_Months.j0 (q + 1) n k e false = (date_civil.f q n).bind fun (bt721 : Int × Int × Int) => _ := fun q => by rw [date_Months.j0, if_neg (by decide)]
 refine Ev.step hstep (Ev.bind (civil n hn.1 hn.2) ?_)
 clear hstep
 have hl := M.mlen_rng (M.mAt n k / 12) (M.mAt n k % 12 + 1)
 by_cases ho : M.monthsOk n k
 ·
  rw [if_pos ho]
  have hr := M.mAt_rng ho
  have hd : ∀ d : Int, 1 ≤ d → d ≤ 31 → Ev (fun q => (date_day.f q (M.mAt n k / 12) (M.mAt n k % 12 + 1) d).bind fun t => some (t, (0 : Int))) (M.dayOf (M.mAt n k / 12) (M.mAt n k % 12 + 1) d, 0) :=
   fun d a b => Ev.bind (day _ _ d (by omega) (by omega) (by omega) (by omega) (by omega) (by omega)) (Ev.now _)
  refine Ev.congr (fun q => by simp only [e1, e2, e3, length, Option.bind_some, dmonth]; rw [decide_eq_true hr, if_pos rfl]) ?_
  unfold M.monthsDay
  by_cases c1 : M.civD n > M.mlen (M.mAt n k / 12) (M.mAt n k % 12 + 1)
  ·
   rw [if_pos c1]
   exact Ev.congr (fun q => if_pos c1) (hd _ (by omega) (by omega))
  ·
   rw [if_neg c1]
   refine Ev.congr (fun q => if_neg c1) ?_
   cases e with
   | true =>
    refine Ev.congr (fun q => if_pos rfl) ?_
    by_cases c2 : M.civD n = M.mlen (M.civY n) (M.civM n)
    ·
     rw [if_pos ⟨rfl, c2⟩]
     exact Ev.congr (fun q => if_pos c2) (hd _ (by omega) (by omega))
    ·
     rw [if_neg (fun h => c2 h.2)]
     exact Ev.congr (fun q => if_neg c2) (hd _ (by omega) (by omega))
   | false =>
    rw [if_neg (fun h => absurd h.1 (by decide))]
    exact Ev.congr (fun q => if_neg (by decide)) (hd _ (by omega) (by omega))
 ·
  rw [if_neg ho]
  refine Ev.congr (fun q => ?_) (Ev.now _)
  have hr : ¬ (1900 ≤ M.mAt n k / 12 ∧ M.mAt n k / 12 ≤ 2199 ∧ 1 ≤ M.mAt n k % 12 + 1 ∧ M.mAt n k % 12 + 1 ≤ 12) := by
   intro h; apply ho; unfold M.monthsOk; omega
  simp only [e1, e2, e3, length, Option.bind_some, dmonth]
  rw [decide_eq_false hr, if_neg (by decide)]
theorem Months (n k : Int) (e : Bool) : Ev (fun q => date_Months.f q n k e) (M.months n k e) := by
 unfold M.months
 refine Ev.congr (fun q => by unfold date_Months.f; rw [dis, Option.bind_some]) ?_
 by_cases hn : 0 ≤ n ∧ n ≤ 109572
 ·
  rw [if_pos hn]
  refine Ev.congr (fun q => by rw [decide_eq_true hn, if_pos rfl]) ?_
  by_cases h0 : k < -4000
  ·
   rw [if_neg (fun h => by have := h.1; omega)]
   exact Ev.congr (fun q => if_pos h0) (Months_j0t n k e)
  ·
   refine Ev.congr (fun q => if_neg h0) ?_
   by_cases h1 : k > 4000
   ·
    rw [if_neg (fun h => by have := h.2.1; omega)]
    exact Ev.congr (fun q => by rw [decide_eq_true h1]) (Months_j0t n k e)
   ·
    exact Ev.congr (fun q => by rw [decide_eq_false h1]) (Months_j0f n k e hn (by omega) (by omega))
 ·
  rw [if_neg hn]
  exact Ev.congr (fun q => by rw [decide_eq_false hn, if_neg (by decide)]) (Months_j0t n k e)
theorem Third (y m : Int) : Ev (fun q => date_Third.f q y m) (if 1900 ≤ y ∧ y ≤ 2199 ∧ 1 ≤ m ∧ m ≤ 12 then (M.third y m, 0) else ((0, 50) : Int × Int)) := by
 refine Ev.congr (fun q => by unfold date_Third.f; rw [dmonth, Option.bind_some]) ?_
 by_cases h : 1900 ≤ y ∧ y ≤ 2199 ∧ 1 ≤ m ∧ m ≤ 12
 ·
  rw [if_pos h]
  refine Ev.congr (fun q => by rw [decide_eq_true h, if_pos rfl]) (Ev.bind (day y m 15 (by omega) (by omega) (by omega) (by omega) (by omega) (by omega)) ?_)
  refine Ev.congr (fun q => ?_) (Ev.now _)
  have hr := M.day_rng (M.d15 h)
  unfold M.third
  rw [tm hr.1, w64 (x := 9 - M.dayOf y m 15 % 7) (by omega) (by omega), tm (a := 9 - M.dayOf y m 15 % 7) (by omega), w64 (by omega) (by omega)]
 ·
  rw [if_neg h]
  exact Ev.congr (fun q => by rw [decide_eq_false h, if_neg (by decide)]) (Ev.now _)
end Go.Proofs.Ytoncignjcgjhhaa.L
namespace Go.Proofs.Ytoncignjcgjhhaa.S
open Go.RowKit Go.Proofs.YtoncignjcgjhhaaW.PrintWords Go.Proofs.YtoncignjcgjhhaaW.PrintLast Go.Proofs.YtoncignjcgjhhaaW.PrintMore
open Go.Proofs.Ytoncignjcgjhhaa.Q
open Go.Proofs.Ytoncignjcgjhhaa.L (w64 td tm tm0)
structure Sp where
 a : Int
 b : Int
 n : Int
 u : Int
 st : Int
 ro : Int
 cv : Int
 lag : Int
 we : Int
 l : List S63
def Sp.days (s : Sp) : Prop := (0 ≤ s.a ∧ s.a ≤ 109572) ∧ 0 ≤ s.b ∧ s.b ≤ 109572
def Sp.fit (s : Sp) : Prop := s.a < s.b ∧ (1 ≤ s.n ∧ s.n ≤ 1200) ∧ (1 ≤ s.u ∧ s.u ≤ 4) ∧ (1 ≤ s.st ∧ s.st ≤ 4) ∧ (0 ≤ s.ro ∧ s.ro ≤ 2) ∧ (s.ro = 0 ∨ 3 ≤ s.u) ∧ (0 ≤ s.cv ∧ s.cv ≤ 4) ∧ (0 ≤ s.lag ∧ s.lag ≤ 30)
def ck (we : Int) (l : List S63) : Int := (M.chk we (l.map H.ru)).1
open Classical in
noncomputable def Sp.chk (s : Sp) : Int := if s.days then (if s.fit then ck s.we s.l else 80) else 51
theorem sin (a b c : Int) : sched_within.f a b c = some (decide (b ≤ a ∧ a ≤ c)) := by
 unfold sched_within.f
 by_cases h : a ≥ b
 ·
  rw [if_pos h]; simp [h]
 ·
  rw [if_neg h]; simp; omega
theorem sis (n : Int) : sched_is.f n = some (decide (0 ≤ n ∧ n ≤ 109572)) := by
 unfold sched_is.f
 by_cases h : n ≥ 0
 ·
  rw [if_pos h]; simp [h]
 ·
  rw [if_neg h]; simp; omega
theorem cCheck {l : List S63} (hw : wfL l) (we : Int) : cal_Check.f we l = some (M.chk we (l.map H.ru)) := if_pos hw
theorem ev_ite {α : Type} {p : Prop} [Decidable p] {g h : Nat → Option α} {r : α} (h1 : p → Ev g r) (h2 : ¬ p → Ev h r) : Ev (fun q => if p then g q else h q) r := by
 by_cases hp : p
 ·
  exact Ev.congr (fun q => if_pos hp) (h1 hp)
 ·
  exact Ev.congr (fun q => if_neg hp) (h2 hp)
theorem ev_dec {α : Type} {p : Prop} [Decidable p] {g h : Nat → Option α} {r : α} (h1 : p → Ev g r) (h2 : ¬ p → Ev h r) : Ev (fun q => if decide p = true then g q else h q) r :=
  ev_ite (fun e => h1 (of_decide_eq_true e)) (fun e => h2 (fun hp => e (decide_eq_true hp)))
theorem chk_days {s : Sp} (h : ¬ s.days) : s.chk = 51 := by unfold Sp.chk; rw [if_neg h]
theorem chk_unfit {s : Sp} (h : s.days) (h2 : ¬ s.fit) : s.chk = 80 := by unfold Sp.chk; rw [if_pos h, if_neg h2]
theorem chk_fit {s : Sp} (h : s.days) (h2 : s.fit) : s.chk = ck s.we s.l := by unfold Sp.chk; rw [if_pos h, if_pos h2]
theorem sCheck (s : Sp) (hw : wfL s.l) : Ev (fun k => sched_Check.f k s.a s.b s.n s.u s.st s.ro s.cv s.lag s.we s.l) s.chk := by
 refine Ev.congr (fun k => by unfold sched_Check.f; rw [sis, Option.bind_some, sis, Option.bind_some]) ?_
 have ht : ¬ s.days → Ev (fun k => sched_Check.j0 k true s.a s.b s.n s.u s.st s.ro s.cv s.lag s.we s.l) s.chk := fun h => by
  rw [chk_days h]
  exact Ev.step (f := fun _ => some (51 : Int)) (fun k => by rw [sched_Check.j0, if_pos rfl]) (Ev.now _)
 refine ev_dec (fun ha => ?_) (fun ha => ht (fun h => ha h.1))
 by_cases hb : 0 ≤ s.b ∧ s.b ≤ 109572
 ·
  have hd : s.days := ⟨ha, hb⟩
  have h80 : ∀ {α : Type} (_ : ¬ s.fit), Ev (fun _ : Nat => some (80 : Int)) s.chk := fun h => by rw [chk_unfit hd h]; exact Ev.now _
  refine Ev.congr (fun k => by rw [decide_eq_true hb]) ?_
  refine Ev.step (fun k => by rw [Bool.not_true, sched_Check.j0, if_neg (by decide), sin, sin, sin, sin, Option.bind_some, Option.bind_some, Option.bind_some, Option.bind_some]) ?_
  have hj1 : ∀ x : Bool, (x = true → ¬ s.fit) → (x = false → (s.cv < 0 ∨ 4 < s.cv ∨ s.lag < 0 ∨ 30 < s.lag) ∨ s.fit) → Ev (fun k => sched_Check.j1 k x s.a s.b s.n s.u s.st s.ro s.cv s.lag s.we s.l) s.chk := by
   intro x h1 h2
   refine Ev.step (fun k => by rw [sched_Check.j1, sin, sin, Option.bind_some, Option.bind_some, cCheck hw, Option.bind_some]) ?_
   refine ev_ite (fun e => h80 (α := Unit) (h1 e)) (fun e => ?_)
   have h3 := h2 (Bool.eq_false_iff.2 e)
   refine ev_dec (fun e1 => ev_dec (fun e2 => ?_) (fun e2 => h80 (α := Unit) (fun h => e2 h.2.2.2.2.2.2.2))) (fun e1 => h80 (α := Unit) (fun h => e1 h.2.2.2.2.2.2.1))
   rw [chk_fit hd (h3.elim (fun h => by omega) id)]
   exact Ev.now _
  refine ev_ite (fun c1 => h80 (α := Unit) (fun h => by have := h.1; omega)) (fun c1 => ?_)
  refine ev_dec (fun c2 => ?_) (fun c2 => h80 (α := Unit) (fun h => c2 h.2.1))
  refine ev_dec (fun c3 => ?_) (fun c3 => h80 (α := Unit) (fun h => c3 h.2.2.1))
  refine ev_dec (fun c4 => ?_) (fun c4 => h80 (α := Unit) (fun h => c4 h.2.2.2.1))
  refine ev_dec (fun c5 => ?_) (fun c5 => h80 (α := Unit) (fun h => c5 h.2.2.2.2.1))
  refine ev_ite (fun c6 => hj1 false (fun h => absurd h (by decide)) (fun _ => ?_)) (fun c6 => hj1 _ (fun h => ?_) (fun h => ?_))
  ·
   by_cases hc : 0 ≤ s.cv ∧ s.cv ≤ 4 ∧ 0 ≤ s.lag ∧ s.lag ≤ 30
   ·
    exact .inr ⟨by omega, c2, c3, c4, c5, .inl c6, by omega, by omega⟩
   ·
    exact .inl (by omega)
  ·
   have := of_decide_eq_true h
   intro hf; have h6 := hf.2.2.2.2.2.1; omega
  ·
   have := of_decide_eq_false h
   by_cases hc : 0 ≤ s.cv ∧ s.cv ≤ 4 ∧ 0 ≤ s.lag ∧ s.lag ≤ 30
   ·
    exact .inr ⟨by omega, c2, c3, c4, c5, .inr (by omega), by omega, by omega⟩
   ·
    exact .inl (by omega)
 ·
  exact Ev.congr (fun k => by rw [decide_eq_false hb]; rfl) (ht (fun h => hb h.2))
end Go.Proofs.Ytoncignjcgjhhaa.S
namespace Go.Proofs.Ytoncignjcgjhhaa.S
open Go.RowKit Go.Proofs.YtoncignjcgjhhaaW.PrintWords Go.Proofs.YtoncignjcgjhhaaW.PrintLast Go.Proofs.YtoncignjcgjhhaaW.PrintMore
open Go.Proofs.Ytoncignjcgjhhaa.Q
open Go.Proofs.Ytoncignjcgjhhaa.L (w64 td tm tm0)
def rolled (ro x m : Int) : Int :=
 if ro = 0 then M.dayOf (M.mAt x m / 12) (M.mAt x m % 12 + 1) (M.monthsDay x m false)
 else if ro = 1 then M.dayOf (M.mAt x m / 12) (M.mAt x m % 12 + 1) (M.mlen (M.mAt x m / 12) (M.mAt x m % 12 + 1))
 else M.third (M.mAt x m / 12) (M.mAt x m % 12 + 1)
def asDay (n : Int) : Option Int := if 0 ≤ n ∧ n ≤ 109572 then some n else none
def Sp.mons (s : Sp) (k : Int) : Int := if s.u = 4 then 12 * (k * s.n) else k * s.n
def Sp.pt (s : Sp) (x k : Int) : Option Int :=
 if k < -200000 ∨ 200000 < k then none
 else if s.u = 2 then asDay (x + 7 * (k * s.n)) else if s.u = 1 then asDay (x + k * s.n)
 else if M.monthsOk x (s.mons k) then some (rolled s.ro x (s.mons k)) else none
def Tells (p : Int × Bool) : Option Int → Prop
  | some v => p = (v, true)
  | none => p.2 = false
def told (o : Option Int) : Int × Bool := match o with | some v => (v, true) | none => (0, false)
theorem mul_rng {k n c : Int} (h0 : 0 ≤ c) (h1 : -c ≤ k) (h2 : k ≤ c) (n1 : 1 ≤ n) (n2 : n ≤ 1200) : -(c * 1200) ≤ k * n ∧ k * n ≤ c * 1200 := by
 have a := Int.mul_le_mul_of_nonneg_right h2 (show 0 ≤ n by omega)
 have b := Int.mul_le_mul_of_nonneg_left n2 h0
 have d := Int.mul_le_mul_of_nonneg_right h1 (show 0 ≤ n by omega)
 rw [Int.neg_mul] at d
 omega
theorem mul_far {k n : Int} (n1 : 1 ≤ n) : (0 ≤ k → k ≤ k * n) ∧ (k ≤ 0 → k * n ≤ k) := by
 refine ⟨fun h => ?_, fun h => ?_⟩
 ·
  have := Int.mul_le_mul_of_nonneg_left n1 h; omega
 ·
  have := Int.mul_le_mul_of_nonpos_left h n1; omega
theorem monthsOk_date {x m : Int} (hx : 0 ≤ x ∧ x ≤ 109572) (h : M.monthsOk x m) : ∃ n, n = M.dayOf (M.mAt x m / 12) (M.mAt x m % 12 + 1) (M.monthsDay x m false) ∧ (0 ≤ n ∧ n ≤ 109572) ∧ M.civY n = M.mAt x m / 12 ∧ M.civM n = M.mAt x m % 12 + 1 := by
 have hd := M.monthsDate false hx h;have hr := M.day_rng hd;have hc := M.civ_unique hd rfl
 exact ⟨_, rfl, ⟨hr.1, hr.2.1⟩, hc.1, hc.2.1⟩
theorem mlenDate {y m : Int} (h : 1900 ≤ y ∧ y ≤ 2199 ∧ 1 ≤ m ∧ m ≤ 12) : M.isDate y m (M.mlen y m) := by
  have := M.mlen_rng y m; unfold M.isDate; omega
theorem point_j0 (s : Sp) (x m : Int) (hx : 0 ≤ x ∧ x ≤ 109572) (hro : 0 ≤ s.ro ∧ s.ro ≤ 2) : Ev (fun q => sched_point.j0 q x m s.a s.b s.n s.u s.st s.ro s.cv s.lag s.we s.l) (told (if M.monthsOk x m then some (rolled s.ro x m) else none)) := by
 refine Ev.step (fun q => by rw [sched_point.j0]) (Ev.bind (L.Months x m false) ?_)
 unfold M.months
 rw [if_pos hx]
 by_cases h : M.monthsOk x m
 ·
  rw [if_pos h, if_pos h]
  refine Ev.congr (fun q => if_pos rfl) ?_
  obtain ⟨n, hn, hr, hy, hm⟩ := monthsOk_date hx h
  have hrng := M.mAt_rng h
  show Ev (fun q => (date_Civil.f q (M.dayOf (M.mAt x m / 12) (M.mAt x m % 12 + 1) (M.monthsDay x m false))).bind _) _
  rw [← hn]
  have hc := L.Civil n
  rw [if_pos hr, hy, hm] at hc
  refine Ev.bind hc ?_
  unfold rolled
  by_cases r1 : s.ro = 1
  ·
   rw [if_neg (show ¬ s.ro = 0 by omega), if_pos r1]
   refine Ev.congr (fun q => by rw [if_pos r1, L.Length, if_pos hrng, Option.bind_some]) ?_
   have ho := L.Of (M.mAt x m / 12) (M.mAt x m % 12 + 1) (M.mlen (M.mAt x m / 12) (M.mAt x m % 12 + 1))
   rw [if_pos (mlenDate hrng)] at ho
   exact Ev.bind ho (Ev.now _)
  ·
   by_cases r2 : s.ro = 2
   ·
    rw [if_neg (show ¬ s.ro = 0 by omega), if_neg r1]
    refine Ev.congr (fun q => by rw [if_neg r1, if_pos r2]) ?_
    have ho := L.Third (M.mAt x m / 12) (M.mAt x m % 12 + 1)
    rw [if_pos hrng] at ho
    exact Ev.bind ho (Ev.now _)
   ·
    rw [if_pos (show s.ro = 0 by omega)]
    refine Ev.congr (fun q => by rw [if_neg r1, if_neg r2]) ?_
    rw [hn]
    exact Ev.now _
 ·
  rw [if_neg h, if_neg h]
  exact Ev.congr (fun q => if_neg (by decide)) (Ev.now _)
theorem tells_day (n : Int) : Tells (n, decide (0 ≤ n ∧ n ≤ 109572)) (asDay n) := by
 unfold asDay
 by_cases h : 0 ≤ n ∧ n ≤ 109572
 ·
  rw [if_pos h, decide_eq_true h]; rfl
 ·
  rw [if_neg h, decide_eq_false h]; rfl
theorem tells_told (o : Option Int) : Tells (told o) o := by cases o <;> rfl
theorem sPoint (s : Sp) (x k : Int) (hx : 0 ≤ x ∧ x ≤ 109572) (hf : s.fit) : ∃ p, Ev (fun q => sched_point.f q s.a s.b s.n s.u s.st s.ro s.cv s.lag s.we s.l x k) p ∧ Tells p (s.pt x k) := by
 obtain ⟨_, hn, hu, _, hro, _⟩ := hf
 have hkk : ∃ kk : Int, mn (mx k (-1048576)) 1048576 = kk ∧ -1048576 ≤ kk ∧ kk ≤ 1048576 ∧ (¬ (k < -200000 ∨ 200000 < k) → kk = k) ∧ (k < -200000 → kk < -200000) ∧ (200000 < k → 200000 < kk) := by
  refine ⟨_, rfl, ?_, ?_, ?_, ?_, ?_⟩ <;> (unfold mn mx; omega)
 obtain ⟨kk, ekk, k1, k2, k3, k4, k5⟩ := hkk
 have hm := mul_rng (by omega) k1 k2 hn.1 hn.2
 have hfar := mul_far (k := kk) hn.1
 have e1 : wrap64 (kk * s.n) = kk * s.n := w64 (by omega) (by omega)
 have e7 : wrap64 (kk * s.n * 7) = kk * s.n * 7 := w64 (by omega) (by omega)
 have e12 : wrap64 (kk * s.n * 12) = kk * s.n * 12 := w64 (by omega) (by omega)
 have ex7 : wrap64 (x + kk * s.n * 7) = x + kk * s.n * 7 := w64 (by omega) (by omega)
 have ex1 : wrap64 (x + kk * s.n) = x + kk * s.n := w64 (by omega) (by omega)
 by_cases u2 : s.u = 2
 ·
  refine ⟨(x + kk * s.n * 7, decide (0 ≤ x + kk * s.n * 7 ∧ x + kk * s.n * 7 ≤ 109572)), Ev.congr (fun q => ?_) (Ev.now _), ?_⟩
  ·
   unfold sched_point.f; rw [if_pos u2, ekk, e1, e7, ex7, sis, Option.bind_some]
  ·
   unfold Sp.pt
   by_cases hk : k < -200000 ∨ 200000 < k
   ·
    rw [if_pos hk]
    show decide _ = false
    refine decide_eq_false (fun h => ?_)
    rcases hk with hk | hk
    ·
     have := k4 hk; have := hfar.2 (by omega); omega
    ·
     have := k5 hk; have := hfar.1 (by omega); omega
   ·
    rw [if_neg hk, if_pos u2, k3 hk, Int.mul_comm 7]
    exact tells_day _
 ·
  by_cases u1 : s.u = 1
  ·
   refine ⟨(x + kk * s.n, decide (0 ≤ x + kk * s.n ∧ x + kk * s.n ≤ 109572)), Ev.congr (fun q => ?_) (Ev.now _), ?_⟩
   ·
    unfold sched_point.f; rw [if_neg u2, if_pos u1, ekk, e1, ex1, sis, Option.bind_some]
   ·
    unfold Sp.pt
    by_cases hk : k < -200000 ∨ 200000 < k
    ·
     rw [if_pos hk]
     show decide _ = false
     refine decide_eq_false (fun h => ?_)
     rcases hk with hk | hk
     ·
      have := k4 hk; have := hfar.2 (by omega); omega
     ·
      have := k5 hk; have := hfar.1 (by omega); omega
    ·
     rw [if_neg hk, if_neg u2, if_pos u1, k3 hk]
     exact tells_day _
  ·
   have hpt : ∀ m, (m = if s.u = 4 then 12 * (kk * s.n) else kk * s.n) → Tells (told (if M.monthsOk x m then some (rolled s.ro x m) else none)) (s.pt x k) := by
    intro m em
    unfold Sp.pt
    by_cases hk : k < -200000 ∨ 200000 < k
    ·
     rw [if_pos hk, if_neg]
     ·
      rfl
     ·
      intro h
      have h1 := h.1; have h2 := h.2.1
      have hb : kk * s.n < -4000 ∨ 4000 < kk * s.n := by
       rcases hk with hk | hk
       ·
        have := k4 hk; have := hfar.2 (by omega); omega
       ·
        have := k5 hk; have := hfar.1 (by omega); omega
      by_cases u4 : s.u = 4
      ·
       rw [if_pos u4] at em; omega
      ·
       rw [if_neg u4] at em; omega
    ·
     rw [if_neg hk, if_neg u2, if_neg u1]
     have : m = s.mons k := by unfold Sp.mons; rw [em, k3 hk]
     rw [this]
     exact tells_told _
   by_cases u4 : s.u = 4
   ·
    refine ⟨_, Ev.congr (fun q => ?_) (point_j0 s x (kk * s.n * 12) hx hro), hpt _ (by rw [if_pos u4, Int.mul_comm 12])⟩
    unfold sched_point.f; rw [if_neg u2, if_neg u1, if_pos u4, ekk, e1, e12]
   ·
    refine ⟨_, Ev.congr (fun q => ?_) (point_j0 s x (kk * s.n) hx hro), hpt _ (by rw [if_neg u4])⟩
    unfold sched_point.f; rw [if_neg u2, if_neg u1, if_neg u4, ekk, e1]
end Go.Proofs.Ytoncignjcgjhhaa.S
namespace Go.Proofs.Ytoncignjcgjhhaa.S
open Go.RowKit Go.Proofs.YtoncignjcgjhhaaW.PrintWords Go.Proofs.YtoncignjcgjhhaaW.PrintLast Go.Proofs.YtoncignjcgjhhaaW.PrintMore
open Go.Proofs.Ytoncignjcgjhhaa.Q
open Go.Proofs.Ytoncignjcgjhhaa.L (w64 td tm tm0)
def Sp.inn (s : Sp) (back : Bool) (x z d : Int) : Nat → Nat → Option (List Int × Bool)
 | 0, _ => none
 | f + 1, i => match s.pt x (d * ((i : Int) + 1)) with
  | none => some ([], false)
  | some n => if n = z then some ([], true) else if (if back = true then n < z else n > z) then some ([], false)
   else if 1200 < (i : Int) + 2 then none else (s.inn back x z d f (i + 1)).map fun p => (n :: p.1, p.2)
def Sp.back (s : Sp) : Bool := decide (s.st ≤ 2)
def cutL (long e : Bool) (l : List Int) : List Int := if long = true ∧ e = false ∧ 0 < l.length then l.take (l.length - 1) else l
def ordL (back : Bool) (l : List Int) : List Int := if back = true then l.reverse else l
def Sp.long (s : Sp) : Bool := decide (s.st = 2 ∨ s.st = 4)
def Sp.out (s : Sp) (l : List Int) (e : Bool) : List Int := s.a :: ordL s.back (cutL s.long e l) ++ [s.b]
noncomputable def Sp.dates (s : Sp) : List Int × Int :=
  if s.chk = 0 then (match (if s.back = true then s.inn true s.b s.a (-1) 1200 0 else s.inn false s.a s.b 1 1200 0) with | none => ([], 81) | some (l, e) => (s.out l e, 0)) else ([], s.chk)
theorem rdI (l : List Int) (i : Nat) (h : i < l.length) : rd l (i : Int) = l[i] := by simp [rd, h]
theorem take_snoc (l : List Int) (i : Nat) (h : i < l.length) : l.take i ++ [l[i]] = l.take (i + 1) := by
  rw [List.take_add_one, List.getElem?_eq_getElem h]; rfl
theorem ord_len (b : Bool) (l : List Int) : (ordL b l).length = l.length := by unfold ordL; split <;> simp
theorem ord_rd (b : Bool) (l : List Int) (i : Nat) (h : i < l.length) : (ordL b l)[i]'(by rw [ord_len]; exact h) = if b = true then rd l ((l.length : Int) - 1 - (i : Int)) else rd l (i : Int) := by
 cases b with
 | true =>
  have e : (l.length : Int) - 1 - (i : Int) = ((l.length - 1 - i : Nat) : Int) := by omega
  rw [if_pos rfl, e, rdI _ _ (by omega)]
  simp [ordL]
 | false => rw [if_neg (by decide), rdI _ _ h]; rfl
theorem cut_len (a e : Bool) (l : List Int) : (cutL a e l).length ≤ l.length := by unfold cutL; split <;> simp <;> omega
theorem chk_ok {s : Sp} (h : s.chk = 0) : s.days ∧ s.fit ∧ ck s.we s.l = 0 := by
 by_cases h1 : s.days
 ·
  by_cases h2 : s.fit
  ·
   rw [chk_fit h1 h2] at h; exact ⟨h1, h2, h⟩
  ·
   rw [chk_unfit h1 h2] at h; exact absurd h (by decide)
 ·
  rw [chk_days h1] at h; exact absurd h (by decide)
theorem sD_l1 (s : Sp) (b : Bool) (l : List Int) (hl : l.length ≤ 5000) : ∀ (f i : Nat), l.length - i = f → i ≤ l.length →
  Ev (fun q => sched_Dates.l1 q b l (s.a :: (ordL b l).take i) (l.length : Int) (i : Int) s.a s.b s.n s.u s.st s.ro s.cv s.lag s.we s.l) (s.a :: ordL b l ++ [s.b], (0 : Int))
 | 0, i, hf, hi => by
  have c1 : ¬ (i : Int) < (l.length : Int) := by omega
  have e : (ordL b l).take i = ordL b l := List.take_of_length_le (by rw [ord_len]; omega)
  have c2 : (s.a :: ordL b l).length < 17592186044416 := by rw [List.length_cons, ord_len]; omega
  refine Ev.step (f := fun _ => some (s.a :: ordL b l ++ [s.b], (0 : Int))) (fun q => ?_) (Ev.now _)
  rw [sched_Dates.l1, if_neg c1, e, if_pos c2]
 | f + 1, i, hf, hi => by
  have hlt : i < l.length := by omega
  have c1 : (i : Int) < (l.length : Int) := by omega
  have c0 : (0 : Int) ≤ (i : Int) := by omega
  have hw : wrap64 ((i : Int) + 1) = ((i + 1 : Nat) : Int) := by rw [w64 (by omega) (by omega)]; push_cast; rfl
  have hv : wrap64 (wrap64 ((l.length : Int) - 1) - (i : Int)) = (l.length : Int) - 1 - (i : Int) := by rw [w64 (x := (l.length : Int) - 1) (by omega) (by omega), w64 (by omega) (by omega)]
  have c2 : (s.a :: (ordL b l).take i).length < 17592186044416 := by rw [List.length_cons, List.length_take]; omega
  have c3 : (0 : Int) ≤ (l.length : Int) - 1 - (i : Int) := by omega
  have c4 : (l.length : Int) - 1 - (i : Int) < (l.length : Int) := by omega
  have hsn : (ordL b l).take i ++ [if b = true then rd l ((l.length : Int) - 1 - (i : Int)) else rd l (i : Int)] = (ordL b l).take (i + 1) := by
   rw [← ord_rd b l i hlt]; exact take_snoc _ i _
  refine Ev.step (fun q => ?_) (sD_l1 s b l hl f (i + 1) (by omega) (by omega))
  rw [sched_Dates.l1, if_pos c1, hw, hv, ← hsn]
  cases b with
  | true => rw [if_pos rfl, if_pos c3, if_pos c4, if_pos c2, if_pos rfl]; rfl
  | false => rw [if_neg (by decide), if_pos c0, if_pos c1, if_pos c2, if_neg (by decide)]; rfl
theorem sD_j7 (s : Sp) (b : Bool) (l : List Int) (hl : l.length ≤ 5000) : Ev (fun q => sched_Dates.j7 q b l s.a s.b s.n s.u s.st s.ro s.cv s.lag s.we s.l) (s.a :: ordL b l ++ [s.b], (0 : Int)) := by
 have hw : wrap64 ((l.length : Int) + 2) = (l.length : Int) + 2 := w64 (by omega) (by omega)
 have c1 : (0 : Int) ≤ (l.length : Int) + 2 := by omega
 have c2 : ((l.length : Int) + 2).toNat ≤ 35184372088832 := by omega
 have h := sD_l1 s b l hl l.length 0 (by omega) (by omega)
 refine Ev.step (fun q => ?_) h
 rw [sched_Dates.j7, hw, if_pos c1, if_pos c2]
 simp only [List.replicate_zero, Option.bind_some, List.length_nil, List.nil_append, List.take_zero]
 rw [if_pos (by decide)]
 rfl
theorem sD_j4 (s : Sp) (b e : Bool) (l : List Int) (hl : l.length ≤ 5000) : Ev (fun q => sched_Dates.j4 q b l e s.a s.b s.n s.u s.st s.ro s.cv s.lag s.we s.l) (s.a :: ordL b (cutL s.long e l) ++ [s.b], (0 : Int)) := by
 have h6 : ∀ t : Bool, (t = true ↔ s.long = true ∧ e = false ∧ 0 < l.length) → Ev (fun q => sched_Dates.j6 q b l t s.a s.b s.n s.u s.st s.ro s.cv s.lag s.we s.l) (s.a :: ordL b (cutL s.long e l) ++ [s.b], (0 : Int)) := by
  intro t ht
  cases t with
  | true =>
   have h := ht.1 rfl
   have hw : wrap64 ((l.length : Int) - 1) = (l.length : Int) - 1 := w64 (by omega) (by omega)
   have c1 : (0 : Int) ≤ (l.length : Int) - 1 := by omega
   have c2 : (l.length : Int) - 1 ≤ (l.length : Int) := by omega
   have e1 : ((l.length : Int) - 1).toNat = l.length - 1 := by omega
   have e2 : cutL s.long e l = l.take (l.length - 1) := if_pos h
   rw [e2]
   refine Ev.step (fun q => ?_) (sD_j7 s b (l.take (l.length - 1)) (by rw [List.length_take]; omega))
   rw [sched_Dates.j6, if_pos rfl, hw, if_pos c1, if_pos c2, e1]
  | false =>
   have e2 : cutL s.long e l = l := if_neg (fun h => by have := ht.2 h; cases this)
   rw [e2]
   exact Ev.step (fun q => by rw [sched_Dates.j6, if_neg (by decide)]) (sD_j7 s b l hl)
 have h5 : ∀ t : Bool, t = s.long → Ev (fun q => sched_Dates.j5 q b l e t s.a s.b s.n s.u s.st s.ro s.cv s.lag s.we s.l) (s.a :: ordL b (cutL s.long e l) ++ [s.b], (0 : Int)) := by
  intro t ht
  cases t with
  | true =>
   cases e with
   | true => exact Ev.step (fun q => by rw [sched_Dates.j5, if_pos rfl, if_pos rfl]) (h6 false (by simp))
   | false =>
    refine Ev.step (fun q => by rw [sched_Dates.j5, if_pos rfl, if_neg (by decide)]) (h6 _ ?_)
    rw [← ht, decide_eq_true_iff]
    constructor
    ·
     intro h; exact ⟨rfl, rfl, by omega⟩
    ·
     intro h; have := h.2.2; omega
  | false => exact Ev.step (fun q => by rw [sched_Dates.j5, if_neg (by decide)]) (h6 false (by rw [← ht]; simp))
 by_cases h2 : s.st = 2
 ·
  exact Ev.step (fun q => by rw [sched_Dates.j4, if_pos h2]) (h5 true (by unfold Sp.long; rw [decide_eq_true (Or.inl h2)]))
 ·
  refine Ev.step (fun q => by rw [sched_Dates.j4, if_neg h2]) (h5 _ ?_)
  unfold Sp.long
  rw [Bool.eq_iff_iff, beq_iff_eq, decide_eq_true_iff]
  constructor
  ·
   intro h; exact .inr h
  ·
   intro h; exact h.resolve_left h2
theorem sD_l0 (s : Sp) (hf : s.fit) (b : Bool) (x z d : Int) (hx : 0 ≤ x ∧ x ≤ 109572) (hd : d = 1 ∨ d = -1) (R : List Int × Int) : ∀ (f i : Nat) (acc : List Int), i + f = 1200 → acc.length = i →
  (match s.inn b x z d f i with | none => R = ([], 81) | some (l, e) => R = (s.a :: ordL b (cutL s.long e (acc ++ l)) ++ [s.b], 0)) → f ≠ 0 →
  Ev (fun q => sched_Dates.l0 q b x z d acc false (i : Int) s.a s.b s.n s.u s.st s.ro s.cv s.lag s.we s.l) R
 | 0, i, acc, h1, h2, h3, h4 => absurd rfl h4
 | f + 1, i, acc, h1, h2, h3, _ => by
  obtain ⟨p, hp, ht⟩ := sPoint s x (d * ((i : Int) + 1)) hx hf
  have c1 : (i : Int) < 1201 := by omega
  have hw1 : wrap64 ((i : Int) + 1) = (i : Int) + 1 := w64 (by omega) (by omega)
  have hw2 : wrap64 (d * ((i : Int) + 1)) = d * ((i : Int) + 1) := by
   rcases hd with rfl | rfl <;> exact w64 (by omega) (by omega)
  have hs : ∀ q, sched_Dates.l0 (q + 1) b x z d acc false (i : Int) s.a s.b s.n s.u s.st s.ro s.cv s.lag s.we s.l = _ := fun q => by rw [sched_Dates.l0, if_pos c1, hw1, hw2]
  refine Ev.step hs (Ev.bind hp ?_)
  clear hs
  rw [Sp.inn] at h3
  cases ho : s.pt x (d * ((i : Int) + 1)) with
  | none =>
   rw [ho] at h3 ht
   simp only at h3
   have hpf : p.2 = false := ht
   rw [List.append_nil] at h3
   rw [h3]
   refine Ev.congr (fun q => if_neg (by rw [hpf]; decide)) (sD_j4 s b false acc (by omega))
  | some n =>
   rw [ho] at h3 ht
   obtain rfl : p = (n, true) := ht
   refine Ev.congr (fun q => if_pos rfl) ?_
   simp only at h3
   by_cases hz : n = z
   ·
    rw [if_pos hz] at h3
    simp only at h3
    rw [List.append_nil] at h3
    rw [h3]
    exact Ev.congr (fun q => if_pos hz) (sD_j4 s b true acc (by omega))
   ·
    rw [if_neg hz] at h3
    refine Ev.congr (fun q => if_neg hz) ?_
    have hj3 : ∀ t : Bool, (t = true ↔ (if b = true then n < z else n > z)) → Ev (fun q => sched_Dates.j3 q b x z d acc false (i : Int) n (i : Int) t s.a s.b s.n s.u s.st s.ro s.cv s.lag s.we s.l) R := by
     intro t htt
     cases t with
     | true =>
      rw [if_pos (htt.1 rfl)] at h3
      simp only at h3
      rw [List.append_nil] at h3
      rw [h3]
      exact Ev.step (fun q => by rw [sched_Dates.j3, if_pos rfl]) (sD_j4 s b false acc (by omega))
     | false =>
      rw [if_neg (fun h => by have := htt.2 h; cases this)] at h3
      have hw3 : wrap64 ((i : Int) + 2) = (i : Int) + 2 := w64 (by omega) (by omega)
      by_cases c5 : 1200 < (i : Int) + 2
      ·
       rw [if_pos c5] at h3
       simp only at h3
       rw [h3]
       exact Ev.step (f := fun _ => some (([] : List Int), (81 : Int))) (fun q => by rw [sched_Dates.j3, if_neg (by decide), hw3, if_pos c5]) (Ev.now _)
      ·
       rw [if_neg c5] at h3
       have c6 : acc.length < 17592186044416 := by omega
       have hw4 : wrap64 ((i : Int) + 1) = ((i + 1 : Nat) : Int) := by rw [hw1]; push_cast; rfl
       refine Ev.step (fun q => by rw [sched_Dates.j3, if_neg (by decide), hw3, if_neg c5, if_pos c6, hw4]) (sD_l0 s hf b x z d hx hd R f (i + 1) (acc ++ [n]) (by omega) (by rw [List.length_append, h2]; rfl) ?_ (by omega))
       cases hi : s.inn b x z d f (i + 1) with
       | none => rw [hi] at h3; exact h3
       | some le => rw [hi] at h3; simpa using h3
    cases b with
    | true =>
     refine Ev.congr (fun q => if_pos rfl) (ev_ite (fun c => hj3 true (by simp [c])) (fun c => hj3 false (by rw [if_pos rfl]; exact ⟨fun h => (by cases h), fun h => absurd h c⟩)))
    | false =>
     exact Ev.congr (fun q => if_neg (by decide)) (hj3 _ (by simp))
theorem sDates (s : Sp) (hw : wfL s.l) : Ev (fun q => sched_Dates.f q s.a s.b s.n s.u s.st s.ro s.cv s.lag s.we s.l) s.dates := by
 refine Ev.congr (fun q => by unfold sched_Dates.f; rfl) (Ev.bind (sCheck s hw) ?_)
 unfold Sp.dates
 by_cases hc : s.chk = 0
 ·
  rw [if_pos hc]
  obtain ⟨hd, hf, _⟩ := chk_ok hc
  have hst := hf.2.2.2.1
  have hj : ∀ (b : Bool), b = s.back → Ev (fun q => sched_Dates.j0 q b s.a s.b s.n s.u s.st s.ro s.cv s.lag s.we s.l) (match (if s.back = true then s.inn true s.b s.a (-1) 1200 0 else s.inn false s.a s.b 1 1200 0) with | none => ([], 81) | some (l, e) => (s.out l e, 0)) := by
   intro b hb
   unfold Sp.out
   rw [← hb]
   cases b with
   | true =>
    rw [if_pos rfl]
    refine Ev.step (fun q => by rw [sched_Dates.j0, if_pos rfl]) (Ev.step (fun q => by rw [sched_Dates.j1]; rfl) (sD_l0 s hf true s.b s.a (-1) hd.2 (.inr rfl) _ 1200 0 [] rfl rfl ?_ (by decide)))
    cases s.inn true s.b s.a (-1) 1200 0 <;> rfl
   | false =>
    rw [if_neg (by decide)]
    refine Ev.step (fun q => by rw [sched_Dates.j0, if_neg (by decide)]) (Ev.step (fun q => by rw [sched_Dates.j1]; rfl) (sD_l0 s hf false s.a s.b 1 hd.1 (.inl rfl) _ 1200 0 [] rfl rfl ?_ (by decide)))
    cases s.inn false s.a s.b 1 1200 0 <;> rfl
  refine Ev.congr (fun q => if_pos hc) (ev_ite (fun h1 => hj true (by unfold Sp.back; rw [decide_eq_true (by omega)])) (fun h1 => hj _ ?_))
  unfold Sp.back
  rw [Bool.eq_iff_iff, beq_iff_eq, decide_eq_true_iff]; omega
 ·
  rw [if_neg hc]
  exact Ev.congr (fun q => if_neg hc) (Ev.now _)
end Go.Proofs.Ytoncignjcgjhhaa.S
namespace Go.Proofs.Ytoncignjcgjhhaa.S
open Go.RowKit Go.Proofs.YtoncignjcgjhhaaW.PrintWords Go.Proofs.YtoncignjcgjhhaaW.PrintLast Go.Proofs.YtoncignjcgjhhaaW.PrintMore
open Go.Proofs.Ytoncignjcgjhhaa.Q
open Go.Proofs.Ytoncignjcgjhhaa.L (w64 td tm tm0)
def Sp.inner (s : Sp) : Option (List Int × Bool) := if s.back = true then s.inn true s.b s.a (-1) 1200 0 else s.inn false s.a s.b 1 1200 0
theorem inn_get (s : Sp) (b : Bool) (x z d : Int) : ∀ (f i : Nat) (p : List Int × Bool), s.inn b x z d f i = some p → p.1.length ≤ f ∧ ∀ (j : Nat) (h : j < p.1.length), s.pt x (d * (((i + j : Nat) : Int) + 1)) = some p.1[j]
 | 0, i, p, h => by cases h
 | f + 1, i, p, h => by
  have hnil : ∀ e : Bool, p = (([] : List Int), e) → p.1.length ≤ f + 1 ∧ ∀ (j : Nat) (h : j < p.1.length), s.pt x (d * (((i + j : Nat) : Int) + 1)) = some p.1[j] := by
   intro e he; subst he; exact ⟨Nat.zero_le _, fun j h => absurd h (Nat.not_lt_zero _)⟩
  rw [Sp.inn] at h
  cases ho : s.pt x (d * ((i : Int) + 1)) with
  | none => rw [ho] at h; simp only [Option.some.injEq] at h; exact hnil _ h.symm
  | some n =>
   rw [ho] at h
   simp only at h
   by_cases c1 : n = z
   ·
    rw [if_pos c1] at h; simp only [Option.some.injEq] at h; exact hnil _ h.symm
   ·
    rw [if_neg c1] at h
    by_cases c2 : (if b = true then n < z else n > z)
    ·
     rw [if_pos c2] at h; simp only [Option.some.injEq] at h; exact hnil _ h.symm
    ·
     rw [if_neg c2] at h
     by_cases c3 : 1200 < (i : Int) + 2
     ·
      rw [if_pos c3] at h; cases h
     ·
      rw [if_neg c3] at h
      obtain ⟨q, hq, rfl⟩ := Option.map_eq_some_iff.1 h
      obtain ⟨hl, hg⟩ := inn_get s b x z d f (i + 1) q hq
      refine ⟨by simp only [List.length_cons]; omega, fun j hj => ?_⟩
      cases j with
      | zero => simpa using ho
      | succ j =>
       have := hg j (by simpa using hj)
       rw [show i + (j + 1) = i + 1 + j by omega, this]
       rfl
theorem dates_ok {s : Sp} (h : s.dates.2 = 0) : s.chk = 0 ∧ ∃ l e, s.inner = some (l, e) ∧ s.dates = (s.out l e, 0) := by
 unfold Sp.dates at h
 by_cases hc : s.chk = 0
 ·
  refine ⟨hc, ?_⟩
  rw [if_pos hc] at h
  unfold Sp.dates
  rw [if_pos hc]
  show ∃ l e, s.inner = some (l, e) ∧ (match s.inner with | none => (([] : List Int), (81 : Int)) | some (l, e) => (s.out l e, 0)) = (s.out l e, 0)
  have h' : (match s.inner with | none => (([] : List Int), (81 : Int)) | some (l, e) => (s.out l e, 0)).2 = 0 := h
  cases hi : s.inner with
  | none => rw [hi] at h'; exact absurd (show (81 : Int) = 0 from h') (by decide)
  | some p => exact ⟨p.1, p.2, rfl, rfl⟩
 ·
  rw [if_neg hc] at h
  exact absurd h hc
theorem inner_pt {s : Sp} {l : List Int} {e : Bool} (h : s.inner = some (l, e)) : l.length ≤ 1200 ∧ ∀ (j : Nat) (hj : j < l.length), (if s.back = true then s.pt s.b (-((j : Int) + 1)) else s.pt s.a ((j : Int) + 1)) = some l[j] := by
 unfold Sp.inner at h
 cases hb : s.back with
 | true =>
  rw [hb, if_pos rfl] at h
  obtain ⟨h1, h2⟩ := inn_get s _ _ _ _ _ _ _ h
  refine ⟨h1, fun j hj => ?_⟩
  rw [if_pos rfl]
  have := h2 j hj
  rw [show (-1 : Int) * (((0 + j : Nat) : Int) + 1) = -((j : Int) + 1) by push_cast; omega] at this
  exact this
 | false =>
  rw [hb, if_neg (by decide)] at h
  obtain ⟨h1, h2⟩ := inn_get s _ _ _ _ _ _ _ h
  refine ⟨h1, fun j hj => ?_⟩
  rw [if_neg (by decide)]
  have := h2 j hj
  rw [show (1 : Int) * (((0 + j : Nat) : Int) + 1) = (j : Int) + 1 by push_cast; omega] at this
  exact this
theorem cut_get (a e : Bool) (l : List Int) (j : Nat) (h : j < (cutL a e l).length) : ∃ h2 : j < l.length, (cutL a e l)[j] = l[j] := by
 have hl := cut_len a e l
 refine ⟨by omega, ?_⟩
 by_cases hc : a = true ∧ e = false ∧ 0 < l.length
 ·
  have e1 : cutL a e l = l.take (l.length - 1) := by unfold cutL; rw [if_pos hc]
  simp only [e1, List.getElem_take]
 ·
  have e1 : cutL a e l = l := by unfold cutL; rw [if_neg hc]
  simp only [e1]
theorem out_len (s : Sp) (l : List Int) (e : Bool) : (s.out l e).length = (cutL s.long e l).length + 2 := by
  unfold Sp.out; rw [List.length_append, List.length_cons, ord_len]; rfl
theorem out_pt {s : Sp} {l : List Int} {e : Bool} (h : s.inner = some (l, e)) (i : Nat) (h1 : 1 ≤ i) (h2 : i + 1 < (s.out l e).length) : (if s.back = true then s.pt s.b ((i : Int) + 1 - ((s.out l e).length : Int)) else s.pt s.a (i : Int)) = some (rd (s.out l e) (i : Int)) := by
 have hlen := out_len s l e
 have hi : i - 1 < (cutL s.long e l).length := by omega
 have hr : rd (s.out l e) (i : Int) = (ordL s.back (cutL s.long e l))[i - 1]'(by rw [ord_len]; exact hi) := by
  rw [rdI _ _ (by omega)]
  obtain ⟨m, rfl⟩ : ∃ m, i = m + 1 := ⟨i - 1, by omega⟩
  simp only [Sp.out, List.cons_append, List.getElem_cons_succ, Nat.add_sub_cancel]
  rw [List.getElem_append_left (by rw [ord_len]; exact hi)]
 rw [hr, ord_rd _ _ _ hi]
 obtain ⟨_, hp⟩ := inner_pt h
 cases hb : s.back with
 | true =>
  rw [if_pos rfl, if_pos rfl]
  have ej : ((cutL s.long e l).length : Int) - 1 - ((i - 1 : Nat) : Int) = (((cutL s.long e l).length - 1 - (i - 1) : Nat) : Int) := by omega
  have hj : (cutL s.long e l).length - 1 - (i - 1) < (cutL s.long e l).length := by omega
  rw [ej, rdI _ _ hj]
  obtain ⟨g1, g2⟩ := cut_get s.long e l _ hj
  have := hp _ g1
  rw [hb, if_pos rfl] at this
  rw [g2, ← this]
  congr 1
  rw [hlen]; push_cast; omega
 | false =>
  rw [if_neg (by decide), if_neg (by decide), rdI _ _ hi]
  obtain ⟨g1, g2⟩ := cut_get s.long e l _ hi
  have := hp _ g1
  rw [hb, if_neg (by decide)] at this
  rw [g2, ← this]
  congr 1
  omega
theorem dates_two {s : Sp} (h : s.dates.2 = 0) : 2 ≤ s.dates.1.length ∧ s.dates.1.length ≤ 1202 := by
 obtain ⟨_, l, e, hi, hd⟩ := dates_ok h
 have h1 := (inner_pt hi).1
 have h2 := cut_len s.long e l;have h3 := out_len s l e
 rw [hd]
 show 2 ≤ (s.out l e).length ∧ (s.out l e).length ≤ 1202
 omega
end Go.Proofs.Ytoncignjcgjhhaa.S
namespace Go.Proofs.Ytoncignjcgjhhaa.S
open Go.RowKit Go.Proofs.YtoncignjcgjhhaaW.PrintWords Go.Proofs.YtoncignjcgjhhaaW.PrintLast Go.Proofs.YtoncignjcgjhhaaW.PrintMore
open Go.Proofs.Ytoncignjcgjhhaa.Q
open Go.Proofs.Ytoncignjcgjhhaa.L (w64 td tm tm0)
def Sp.adj (s : Sp) (x : Int) : Int × Int := M.Adjust s.we (s.l.map H.ru) x s.cv
def Sp.add (s : Sp) (x : Int) : Int × Int := M.Add s.we (s.l.map H.ru) x s.lag
def Sp.per1 (s : Sp) (x y : Int) : S81 × Int :=
 if (s.adj x).2 = 0 then
  if (s.adj y).2 = 0 then
   if s.lag > 0 then
    if (s.add (s.adj y).1).2 = 0 then (⟨x, y, (s.adj x).1, (s.adj y).1, (s.add (s.adj y).1).1⟩, 0) else (z81, (s.add (s.adj y).1).2)
   else (⟨x, y, (s.adj x).1, (s.adj y).1, (s.adj y).1⟩, 0)
  else (z81, (s.adj y).2)
 else (z81, (s.adj x).2)
def Sp.perF (s : Sp) (l : List Int) : Nat → Nat → List S81 → List S81 × Int
  | 0, _, acc => (acc, 0)
  | f + 1, i, acc => if (s.per1 (rd l (i : Int)) (rd l ((i + 1 : Nat) : Int))).2 = 0 then s.perF l f (i + 1) (acc ++ [(s.per1 (rd l (i : Int)) (rd l ((i + 1 : Nat) : Int))).1]) else ([], (s.per1 (rd l (i : Int)) (rd l ((i + 1 : Nat) : Int))).2)
noncomputable def Sp.periods (s : Sp) : List S81 × Int := if s.dates.2 = 0 then s.perF s.dates.1 (s.dates.1.length - 1) 0 [] else ([], s.dates.2)
theorem sP_l0 (s : Sp) (hw : wfL s.l) (hlag : L.i64 s.lag) (l : List Int) (hl : l.length ≤ 5000) : ∀ (f i : Nat) (acc : List S81), l.length - 1 - i = f → i + 1 ≤ l.length → acc.length = i →
  Ev (fun q => sched_Periods.l0 q l acc ((l.length : Int) - 1) (i : Int) s.a s.b s.n s.u s.st s.ro s.cv s.lag s.we s.l) (s.perF l f i acc)
 | 0, i, acc, hf, hi, ha => by
  refine Ev.step (f := fun _ => some (acc, (0 : Int))) (fun q => ?_) (Ev.now _)
  rw [sched_Periods.l0, if_neg (by omega)]
 | f + 1, i, acc, hf, hi, ha => by
  have c1 : (i : Int) < (l.length : Int) - 1 := by omega
  have c0 : (0 : Int) ≤ (i : Int) := by omega
  have c2 : (i : Int) < (l.length : Int) := by omega
  have c3 : (0 : Int) ≤ ((i + 1 : Nat) : Int) := by omega
  have c4 : ((i + 1 : Nat) : Int) < (l.length : Int) := by omega
  have c5 : acc.length < 3518437208883 := by omega
  have hA : ∀ x, cal_Adjust.f s.we s.l x s.cv = some (s.adj x) := fun x => if_pos hw
  have hD : ∀ x, cal_Add.f s.we s.l x s.lag = some (s.add x) := fun x => if_pos ⟨hw, hlag⟩
  have hrec := fun p => sP_l0 s hw hlag l hl f (i + 1) (acc ++ [p]) (by omega) (by omega) (by rw [List.length_append, ha]; rfl)
  have hw1 : wrap64 ((i : Int) + 1) = ((i + 1 : Nat) : Int) := by rw [w64 (by omega) (by omega)]; push_cast; rfl
  refine Ev.step (fun q => by rw [sched_Periods.l0, if_pos c1, if_pos c0, if_pos c2, hw1, if_pos c3, if_pos c4, hA, Option.bind_some]) ?_
  unfold Sp.perF Sp.per1
  by_cases e1 : (s.adj (rd l (i : Int))).2 = 0
  ·
   rw [if_pos e1]
   refine Ev.congr (fun q => by rw [if_pos e1, hA, Option.bind_some]) ?_
   by_cases e2 : (s.adj (rd l ((i + 1 : Nat) : Int))).2 = 0
   ·
    rw [if_pos e2]
    refine Ev.congr (fun q => if_pos e2) ?_
    by_cases e3 : s.lag > 0
    ·
     rw [if_pos e3]
     refine Ev.congr (fun q => by rw [if_pos e3, hD, Option.bind_some]) ?_
     by_cases e4 : (s.add (s.adj (rd l ((i + 1 : Nat) : Int))).1).2 = 0
     ·
      rw [if_pos e4, if_pos rfl]
      exact Ev.congr (fun q => by rw [if_pos e4, if_pos c5]) (hrec _)
     ·
      rw [if_neg e4, if_neg e4]
      exact Ev.congr (fun q => if_neg e4) (Ev.now _)
    ·
     rw [if_neg e3, if_pos rfl]
     exact Ev.congr (fun q => by rw [if_neg e3, if_pos c5]) (hrec _)
   ·
    rw [if_neg e2, if_neg e2]
    exact Ev.congr (fun q => if_neg e2) (Ev.now _)
  ·
   rw [if_neg e1, if_neg e1]
   exact Ev.congr (fun q => if_neg e1) (Ev.now _)
theorem sPeriods (s : Sp) (hw : wfL s.l) : Ev (fun q => sched_Periods.f q s.a s.b s.n s.u s.st s.ro s.cv s.lag s.we s.l) s.periods := by
 refine Ev.congr (fun q => by unfold sched_Periods.f; rfl) (Ev.bind (sDates s hw) ?_)
 unfold Sp.periods
 by_cases h : s.dates.2 = 0
 ·
  obtain ⟨h2, h3⟩ := dates_two h
  obtain ⟨hc, _⟩ := dates_ok h
  have hlag := (chk_ok hc).2.1.2.2.2.2.2.2.2
  have c1 : 0 ≤ (s.dates.1.length : Int) - 1 := by omega
  have c2 : ((s.dates.1.length : Int) - 1).toNat ≤ 7036874417766 := by omega
  have hw1 : wrap64 ((s.dates.1.length : Int) - 1) = (s.dates.1.length : Int) - 1 := w64 (by omega) (by omega)
  rw [if_pos h]
  refine Ev.congr (fun q => by rw [if_pos h, hw1, if_pos c1, if_pos c2]) ?_
  exact sP_l0 s hw (by unfold L.i64; omega) _ (by omega) _ 0 [] (by omega) (by omega) rfl
 ·
  rw [if_neg h]
  exact Ev.congr (fun q => if_neg h) (Ev.now _)
end Go.Proofs.Ytoncignjcgjhhaa.S
namespace Go.Proofs.Ytoncignjcgjhhaa.S
open Go.RowKit Go.Proofs.YtoncignjcgjhhaaW.PrintWords Go.Proofs.YtoncignjcgjhhaaW.PrintLast Go.Proofs.YtoncignjcgjhhaaW.PrintMore
open Go.Proofs.Ytoncignjcgjhhaa.Q
open Go.Proofs.Ytoncignjcgjhhaa.L (w64 td tm tm0)
def ms (m : Int) : Int := M.before (m / 12) + M.cum (m / 12) (m % 12 + 1)
def ml (m : Int) : Int := M.mlen (m / 12) (m % 12 + 1)
theorem ml_rng (m : Int) : 28 ≤ ml m ∧ ml m ≤ 31 := M.mlen_rng _ _
theorem ms_succ (m : Int) : ms (m + 1) = ms m + ml m := by
 unfold ms ml
 have hc := M.cum_succ (m / 12) (m % 12 + 1) (by omega) (by omega)
 by_cases h : m % 12 = 11
 ·
  have e1 : (m + 1) / 12 = m / 12 + 1 := by omega
  have e2 : (m + 1) % 12 + 1 = 1 := by omega
  rw [e1, e2, M.cum_1, M.before_succ]
  rw [h] at hc ⊢
  have h13 := M.cum_13 (m / 12)
  rw [show (11 : Int) + 1 + 1 = 13 by decide] at hc
  omega
 ·
  have e1 : (m + 1) / 12 = m / 12 := by omega
  have e2 : (m + 1) % 12 + 1 = m % 12 + 1 + 1 := by omega
  rw [e1, e2, hc]; omega
theorem ms_add (m : Int) : ∀ f : Nat, ms m + ml m ≤ ms (m + 1 + (f : Int))
 | 0 => by have := ms_succ m; rw [show m + 1 + ((0 : Nat) : Int) = m + 1 by omega]; omega
 | f + 1 => by
  have h := ms_add m f
  have h1 := ms_succ (m + 1 + (f : Int))
  have h2 := ml_rng (m + 1 + (f : Int))
  rw [show m + 1 + ((f + 1 : Nat) : Int) = m + 1 + (f : Int) + 1 by push_cast; omega]
  omega
theorem ms_lt {a b : Int} (h : a < b) : ms a + ml a ≤ ms b := by
  have := ms_add a (b - a - 1).toNat
  rwa [show a + 1 + ((b - a - 1).toNat : Int) = b by omega] at this
theorem rolled_rng {ro x m : Int} (hx : 0 ≤ x ∧ x ≤ 109572) : ms (M.mAt x m) ≤ rolled ro x m ∧ rolled ro x m < ms (M.mAt x m) + ml (M.mAt x m) := by
 have hl := ml_rng (M.mAt x m)
 unfold ml at hl
 unfold rolled ms ml M.third M.dayOf
 have hd := M.monthsDay_rng (n := x) (k := m) false hx
 split
 ·
  omega
 ·
  split <;> omega
theorem day_rngm {x : Int} (hx : 0 ≤ x ∧ x ≤ 109572) : ms (M.mAt x 0) ≤ x ∧ x < ms (M.mAt x 0) + ml (M.mAt x 0) := by
 obtain ⟨hd, he⟩ := M.civ_spec x hx.1 hx.2
 unfold M.isDate at hd
 unfold M.dayOf at he
 have e1 : M.mAt x 0 / 12 = M.civY x := by unfold M.mAt; omega
 have e2 : M.mAt x 0 % 12 + 1 = M.civM x := by unfold M.mAt; omega
 unfold ms ml
 rw [e1, e2]
 omega
theorem mAt_add (x m : Int) : M.mAt x m = M.mAt x 0 + m := by unfold M.mAt; omega
theorem mons_lt {s : Sp} (hn : 1 ≤ s.n) {j k : Int} (h : j < k) : s.mons j < s.mons k := by
  have := Int.mul_lt_mul_of_pos_right h (show 0 < s.n by omega)
  unfold Sp.mons; split <;> omega
theorem mons_zero (s : Sp) : s.mons 0 = 0 := by unfold Sp.mons; simp
theorem asDay_some {n v : Int} (h : asDay n = some v) : n = v := by
 unfold asDay at h
 split at h
 ·
  exact Option.some.inj h
 ·
  cases h
theorem pt_cases {s : Sp} {x k v : Int} (hx : 0 ≤ x ∧ x ≤ 109572) (h : s.pt x k = some v) : (s.u = 2 ∧ v = x + 7 * (k * s.n)) ∨ (¬ s.u = 2 ∧ s.u = 1 ∧ v = x + k * s.n) ∨ (¬ s.u = 2 ∧ ¬ s.u = 1 ∧ ms (M.mAt x 0 + s.mons k) ≤ v ∧ v < ms (M.mAt x 0 + s.mons k) + ml (M.mAt x 0 + s.mons k)) := by
 unfold Sp.pt at h
 split at h
 ·
  cases h
 ·
  split at h
  ·
   rename_i h2; exact .inl ⟨h2, (asDay_some h).symm⟩
  ·
   split at h
   ·
    rename_i h2 h1; exact .inr (.inl ⟨h2, h1, (asDay_some h).symm⟩)
   ·
    rename_i h2 h1
    split at h
    ·
     have e := Option.some.inj h
     have := rolled_rng (ro := s.ro) (m := s.mons k) hx
     rw [e, mAt_add] at this
     exact .inr (.inr ⟨h2, h1, this⟩)
    ·
     cases h
theorem pt_lt {s : Sp} (hn : 1 ≤ s.n) {x j k v w : Int} (hx : 0 ≤ x ∧ x ≤ 109572) (h : j < k) (h1 : s.pt x j = some v) (h2 : s.pt x k = some w) : v < w := by
 have hm := Int.mul_lt_mul_of_pos_right h (show 0 < s.n by omega)
 have hs := ms_lt (show M.mAt x 0 + s.mons j < M.mAt x 0 + s.mons k by have := mons_lt (s := s) hn h; omega)
 rcases pt_cases hx h1 with ⟨a, b⟩ | ⟨a, b, c⟩ | ⟨a, b, c, d⟩ <;> rcases pt_cases hx h2 with ⟨e, f⟩ | ⟨e, f, g⟩ | ⟨e, f, g, i⟩ <;> omega
theorem pt_up {s : Sp} (hn : 1 ≤ s.n) {x k v : Int} (hx : 0 ≤ x ∧ x ≤ 109572) (h : 0 < k) (h1 : s.pt x k = some v) : x < v := by
 have hm := Int.mul_lt_mul_of_pos_right h (show 0 < s.n by omega)
 have hs := ms_lt (show M.mAt x 0 < M.mAt x 0 + s.mons k by have := mons_lt (s := s) hn h; rw [mons_zero] at this; omega)
 have hd := day_rngm hx
 rcases pt_cases hx h1 with ⟨a, b⟩ | ⟨a, b, c⟩ | ⟨a, b, c, d⟩ <;> omega
theorem pt_down {s : Sp} (hn : 1 ≤ s.n) {x k v : Int} (hx : 0 ≤ x ∧ x ≤ 109572) (h : k < 0) (h1 : s.pt x k = some v) : v < x := by
 have hm := Int.mul_lt_mul_of_pos_right h (show 0 < s.n by omega)
 have hs := ms_lt (show M.mAt x 0 + s.mons k < M.mAt x 0 by have := mons_lt (s := s) hn h; rw [mons_zero] at this; omega)
 have hd := day_rngm hx
 rcases pt_cases hx h1 with ⟨a, b⟩ | ⟨a, b, c⟩ | ⟨a, b, c, d⟩ <;> omega
theorem inn_btw (s : Sp) (b : Bool) (x z d : Int) : ∀ (f i : Nat) (p : List Int × Bool), s.inn b x z d f i = some p → ∀ (j : Nat) (h : j < p.1.length), (b = true → z < p.1[j]) ∧ (b = false → p.1[j] < z)
 | 0, i, p, h => by cases h
 | f + 1, i, p, h => by
  have hnil : ∀ e : Bool, p = (([] : List Int), e) → ∀ (j : Nat) (h : j < p.1.length), (b = true → z < p.1[j]) ∧ (b = false → p.1[j] < z) := by
   intro e he; subst he; exact fun j h => absurd h (Nat.not_lt_zero _)
  rw [Sp.inn] at h
  cases ho : s.pt x (d * ((i : Int) + 1)) with
  | none => rw [ho] at h; simp only [Option.some.injEq] at h; exact hnil _ h.symm
  | some n =>
   rw [ho] at h
   simp only at h
   by_cases c1 : n = z
   ·
    rw [if_pos c1] at h; simp only [Option.some.injEq] at h; exact hnil _ h.symm
   ·
    rw [if_neg c1] at h
    by_cases c2 : (if b = true then n < z else n > z)
    ·
     rw [if_pos c2] at h; simp only [Option.some.injEq] at h; exact hnil _ h.symm
    ·
     rw [if_neg c2] at h
     by_cases c3 : 1200 < (i : Int) + 2
     ·
      rw [if_pos c3] at h; cases h
     ·
      rw [if_neg c3] at h
      obtain ⟨q, hq, rfl⟩ := Option.map_eq_some_iff.1 h
      have hg := inn_btw s b x z d f (i + 1) q hq
      intro j hj
      cases j with
      | zero =>
       refine ⟨fun hb => ?_, fun hb => ?_⟩
       ·
        rw [if_pos hb] at c2; show z < n; omega
       ·
        rw [if_neg (by rw [hb]; decide)] at c2; show n < z; omega
      | succ j => exact hg j (by simpa using hj)
theorem inn_len1 (s : Sp) (b : Bool) (x z d : Int) : ∀ (f i : Nat) (p : List Int × Bool), s.inn b x z d f i = some p → i ≤ 1199 → p.1.length + i ≤ 1199
 | 0, i, p, h, _ => by cases h
 | f + 1, i, p, h, hi => by
  have hnil : ∀ e : Bool, p = (([] : List Int), e) → p.1.length + i ≤ 1199 := by intro e he; subst he; simpa using hi
  rw [Sp.inn] at h
  cases ho : s.pt x (d * ((i : Int) + 1)) with
  | none => rw [ho] at h; simp only [Option.some.injEq] at h; exact hnil _ h.symm
  | some n =>
   rw [ho] at h
   simp only at h
   by_cases c1 : n = z
   ·
    rw [if_pos c1] at h; simp only [Option.some.injEq] at h; exact hnil _ h.symm
   ·
    rw [if_neg c1] at h
    by_cases c2 : (if b = true then n < z else n > z)
    ·
     rw [if_pos c2] at h; simp only [Option.some.injEq] at h; exact hnil _ h.symm
    ·
     rw [if_neg c2] at h
     by_cases c3 : 1200 < (i : Int) + 2
     ·
      rw [if_pos c3] at h; cases h
     ·
      rw [if_neg c3] at h
      obtain ⟨q, hq, rfl⟩ := Option.map_eq_some_iff.1 h
      have := inn_len1 s b x z d f (i + 1) q hq (by omega)
      simp only [List.length_cons]; omega
theorem inner_len1 {s : Sp} {l : List Int} {e : Bool} (h : s.inner = some (l, e)) : l.length ≤ 1199 := by
 unfold Sp.inner at h
 split at h
 ·
  exact inn_len1 s _ _ _ _ _ _ _ h (by omega)
 ·
  exact inn_len1 s _ _ _ _ _ _ _ h (by omega)
theorem out_mem {s : Sp} {l : List Int} {e : Bool} (i : Nat) (h1 : 1 ≤ i) (h2 : i + 1 < (s.out l e).length) : ∃ (j : Nat) (hj : j < l.length), rd (s.out l e) (i : Int) = l[j] := by
 have hlen := out_len s l e
 have hi : i - 1 < (cutL s.long e l).length := by omega
 have hr : rd (s.out l e) (i : Int) = (ordL s.back (cutL s.long e l))[i - 1]'(by rw [ord_len]; exact hi) := by
  rw [rdI _ _ (by omega)]
  obtain ⟨m, rfl⟩ : ∃ m, i = m + 1 := ⟨i - 1, by omega⟩
  simp only [Sp.out, List.cons_append, List.getElem_cons_succ, Nat.add_sub_cancel]
  rw [List.getElem_append_left (by rw [ord_len]; exact hi)]
 rw [hr, ord_rd _ _ _ hi]
 cases hb : s.back with
 | true =>
  rw [if_pos rfl]
  have ej : ((cutL s.long e l).length : Int) - 1 - ((i - 1 : Nat) : Int) = (((cutL s.long e l).length - 1 - (i - 1) : Nat) : Int) := by omega
  have hj : (cutL s.long e l).length - 1 - (i - 1) < (cutL s.long e l).length := by omega
  rw [ej, rdI _ _ hj]
  obtain ⟨g1, g2⟩ := cut_get s.long e l _ hj
  exact ⟨_, g1, g2⟩
 | false =>
  rw [if_neg (by decide), rdI _ _ hi]
  obtain ⟨g1, g2⟩ := cut_get s.long e l _ hi
  exact ⟨_, g1, g2⟩
theorem out_first (s : Sp) (l : List Int) (e : Bool) : rd (s.out l e) 0 = s.a := by
 have hl := out_len s l e
 have := rdI (s.out l e) 0 (by omega)
 rw [show ((0 : Nat) : Int) = 0 from rfl] at this
 rw [this]; rfl
theorem out_last (s : Sp) (l : List Int) (e : Bool) : rd (s.out l e) (((s.out l e).length : Int) - 1) = s.b := by
 have hl := out_len s l e
 have := rdI (s.out l e) ((s.out l e).length - 1) (by omega)
 rw [show (((s.out l e).length - 1 : Nat) : Int) = ((s.out l e).length : Int) - 1 by omega] at this
 rw [this]
 have hne : s.out l e ≠ [] := by intro h; rw [h] at hl; simp at hl
 rw [← List.getLast_eq_getElem hne]
 have hg : ∀ h, (s.out l e).getLast h = s.b := by unfold Sp.out; intro h; exact List.getLast_concat
 exact hg _
theorem out_btw {s : Sp} (hf : s.fit) (hd : s.days) {l : List Int} {e : Bool} (h : s.inner = some (l, e)) (i : Nat) (h1 : 1 ≤ i) (h2 : i + 1 < (s.out l e).length) : s.a < rd (s.out l e) (i : Int) ∧ rd (s.out l e) (i : Int) < s.b := by
 obtain ⟨j, hj, ej⟩ := out_mem (s := s) (l := l) (e := e) i h1 h2
 have hp := out_pt h i h1 h2;have hn := hf.2.1.1
 unfold Sp.inner at h
 cases hb : s.back with
 | true =>
  rw [hb, if_pos rfl] at h
  rw [hb, if_pos rfl] at hp
  have h3 := (inn_btw s _ _ _ _ _ _ _ h j hj).1 rfl
  have h4 := pt_down hn hd.2 (by omega) hp
  rw [ej] at h4 ⊢
  exact ⟨h3, h4⟩
 | false =>
  rw [hb, if_neg (by decide)] at h
  rw [hb, if_neg (by decide)] at hp
  have h3 := (inn_btw s _ _ _ _ _ _ _ h j hj).2 rfl
  have h4 := pt_up hn hd.1 (by omega) hp
  rw [ej] at h4 ⊢
  exact ⟨h4, h3⟩
theorem out_rise {s : Sp} (hf : s.fit) (hd : s.days) {l : List Int} {e : Bool} (h : s.inner = some (l, e)) (i : Nat) (h2 : i + 1 < (s.out l e).length) : rd (s.out l e) (i : Int) < rd (s.out l e) ((i + 1 : Nat) : Int) := by
 have hlast := out_last s l e;have hfirst := out_first s l e;have hn := hf.2.1.1;have hab := hf.1
 by_cases h0 : i = 0
 ·
  subst h0
  rw [show ((0 : Nat) : Int) = 0 from rfl, hfirst]
  by_cases h3 : (s.out l e).length = 2
  ·
   rw [h3] at hlast
   rw [show ((0 + 1 : Nat) : Int) = ((2 : Nat) : Int) - 1 by decide, hlast]; exact hab
  ·
   exact (out_btw hf hd h (0 + 1) (by omega) (by omega)).1
 ·
  by_cases h3 : i + 2 = (s.out l e).length
  ·
   rw [show ((i + 1 : Nat) : Int) = ((s.out l e).length : Int) - 1 by omega, hlast]
   exact (out_btw hf hd h i (by omega) (by omega)).2
  ·
   have p1 := out_pt h i (by omega) (by omega)
   have p2 := out_pt h (i + 1) (by omega) (by omega)
   cases hb : s.back with
   | true =>
    rw [hb, if_pos rfl] at p1 p2
    exact pt_lt hn hd.2 (by push_cast; omega) p1 p2
   | false =>
    rw [hb, if_neg (by decide)] at p1 p2
    exact pt_lt hn hd.1 (by push_cast; omega) p1 p2
theorem dates_rise {s : Sp} (h : s.dates.2 = 0) : rd s.dates.1 0 = s.a ∧ rd s.dates.1 ((s.dates.1.length : Int) - 1) = s.b ∧ ∀ i : Nat, i + 1 < s.dates.1.length → rd s.dates.1 (i : Int) < rd s.dates.1 ((i + 1 : Nat) : Int) := by
 obtain ⟨hc, l, e, hi, hd⟩ := dates_ok h
 obtain ⟨hdy, hf, _⟩ := chk_ok hc
 rw [hd]
 exact ⟨out_first s l e, out_last s l e, fun i h2 => out_rise hf hdy hi i h2⟩
end Go.Proofs.Ytoncignjcgjhhaa.S
namespace Go.Proofs.Ytoncignjcgjhhaa.S
open Go.RowKit Go.Proofs.YtoncignjcgjhhaaW.PrintWords Go.Proofs.YtoncignjcgjhhaaW.PrintLast Go.Proofs.YtoncignjcgjhhaaW.PrintMore
open Go.Proofs.Ytoncignjcgjhhaa.Q
theorem awake8 : Ev (fun k => tenorlaw8_awake.f k) true := Ev.of (k := 40) (fun k => tenorlaw8_awake.mono k) (by decide +kernel)
end Go.Proofs.Ytoncignjcgjhhaa.S
namespace Go.Proofs.Ytoncignjcgjhhaa.O
open Go.ChangeShapes Go.WideShapes Go.ChangeAt Go.RowKit Go.Deep Go.Joins
open Go.Proofs.YtoncignjcgjhhaaW.PrintWords
open Go.Proofs.Ytoncignjcgjhhaa.Q (S63 k63 k63_mk wfL wfL_of)
theorem i64_of {a : Int} (h : (Lit.int .i64 a).wf = true) : L.i64 a := by
 have hmin : IntKind.i64.min = -9223372036854775808 := rfl
 have hmax : IntKind.i64.max = 9223372036854775807 := rfl
 simp only [Lit.wf, Bool.and_eq_true, decide_eq_true_eq] at h
 unfold L.i64; omega
variable {K : Type} {enc : TypeId × Value → K} {W : World}
set_option maxRecDepth 100000 in
theorem rule_cells {n : Nat} {cs : List Value} {x : DataW K × List MemPlace} (h : DataW.trod enc Try.prog W 0 (fun _ => true) true n 63 cs = some x) (hl : cs.length = 9) :
  ∃ e : S63, H.wfS e ∧ cs = [.int .i64 e.f0, .int .i64 e.f1, .int .i64 e.f2, .int .i64 e.f3, .int .i64 e.f4, .int .i64 e.f5, .int .i64 e.f6, .int .i64 e.f7, .int .i64 e.f8] := by
 obtain ⟨ys, n', _, _, _, hyl, hf⟩ := DataW.trod_struct Try.underlying63 h
 have key : ∀ (j : Nat) (f : Field), j < 9 → (match Try.prog.underlying 63 with | some (.struct fs) => fs[j]? | _ => none) = some f → f.type = 3 → ∃ a, cs[j]? = some (.int .i64 a) ∧ (Lit.int .i64 a).wf = true := by
  intro j f hj hfj ht
  rw [Try.underlying63] at hfj
  obtain ⟨ho, hk⟩ := hone_of (P := Try.prog) (by kernel_rfl) j f hfj
  have h1 := hf j f hfj
  rw [ho, hk, ht] at h1
  have e1 : (cs.drop j).take 1 = [cs[j]'(by omega)] := by rw [List.drop_eq_getElem_cons (by omega)]; rfl
  rw [e1] at h1
  have hy : ys[j]? = some (ys[j]'(by rw [hyl]; exact (Array.getElem?_eq_some_iff.1 hfj).1)) := List.getElem?_eq_getElem _
  obtain ⟨a, e0, _, wa⟩ := DataW.trod_int Try.underlying3 (h1.trans hy)
  refine ⟨a, ?_, wa⟩
  rw [List.getElem?_eq_getElem (by omega)]
  exact congrArg some (List.cons.inj e0).1
 obtain ⟨a0, e0, w0⟩ := key 0 _ (by omega) (by rw [Try.underlying63]; rfl) rfl
 obtain ⟨a1, e1, w1⟩ := key 1 _ (by omega) (by rw [Try.underlying63]; rfl) rfl
 obtain ⟨a2, e2, w2⟩ := key 2 _ (by omega) (by rw [Try.underlying63]; rfl) rfl
 obtain ⟨a3, e3, w3⟩ := key 3 _ (by omega) (by rw [Try.underlying63]; rfl) rfl
 obtain ⟨a4, e4, w4⟩ := key 4 _ (by omega) (by rw [Try.underlying63]; rfl) rfl
 obtain ⟨a5, e5, w5⟩ := key 5 _ (by omega) (by rw [Try.underlying63]; rfl) rfl
 obtain ⟨a6, e6, w6⟩ := key 6 _ (by omega) (by rw [Try.underlying63]; rfl) rfl
 obtain ⟨a7, e7, w7⟩ := key 7 _ (by omega) (by rw [Try.underlying63]; rfl) rfl
 obtain ⟨a8, e8, w8⟩ := key 8 _ (by omega) (by rw [Try.underlying63]; rfl) rfl
 refine ⟨⟨a0, a1, a2, a3, a4, a5, a6, a7, a8⟩, ⟨i64_of w0, i64_of w1, i64_of w2, i64_of w3, i64_of w4, i64_of w5, i64_of w6, i64_of w7, i64_of w8⟩, ?_⟩
 match cs, hl with
 | [c0, c1, c2, c3, c4, c5, c6, c7, c8], _ =>
  simp only [List.getElem?_cons_zero, List.getElem?_cons_succ, Option.some.injEq] at e0 e1 e2 e3 e4 e5 e6 e7 e8
  subst e0 e1 e2 e3 e4 e5 e6 e7 e8
  rfl
theorem cells63 : Try.prog.cellsOf 63 = 9 := by kernel_rfl
theorem cells24 : Try.prog.cellsOf 24 = 2 := by kernel_rfl
set_option maxRecDepth 100000 in
theorem rules_open {n : Nat} {v : Value} {x : DataW K × List MemPlace} (h : DataW.trod enc Try.prog W 0 (fun _ => true) true n 22 [v] = some x) :
  ∃ (A : Option Addr) (c : Nat) (l : List S63), v = .slice A l.length c ∧ l.length ≤ c ∧ Kd.C k63 W A l.length l ∧ wfL l := by
 rcases open_slice Try.underlying22 h with ⟨hcs, _⟩ | ⟨a, len, cap, m, n', D, Pl, hcs, _, hl, hm, hmm, _, hel⟩
 ·
  injection hcs with hcs
  exact ⟨none, 0, [], hcs, Nat.le_refl _, ⟨rfl, by simp, fun h => absurd h (by simp)⟩, wfL_of (by simp)⟩
 ·
  injection hcs with hcs
  rw [if_pos rfl] at hmm
  subst hmm
  have key : ∀ i, i < len → ∃ e : S63, H.wfS e ∧ ∀ j u, [Value.int .i64 e.f0, .int .i64 e.f1, .int .i64 e.f2, .int .i64 e.f3, .int .i64 e.f4, .int .i64 e.f5, .int .i64 e.f6, .int .i64 e.f7, .int .i64 e.f8][j]? = some u → W.cell? (a.add (i * 9 + j)) = some u := by
   intro i hi
   obtain ⟨cs', hc, ht⟩ := hel i (by omega)
   rw [cells63] at hc
   obtain ⟨_, hcl, hat⟩ := World.cells?_some hc
   obtain ⟨e, hw, he⟩ := rule_cells ht hcl
   refine ⟨e, hw, fun j u hj => ?_⟩
   rw [← he] at hj
   have hjl : j < 9 := by have := (List.getElem?_eq_some_iff.1 hj).1; omega
   have hcell := hat j hjl
   rw [← Go.Deep.add_add, hcell, hj]
  let g : Nat → S63 := fun i => if hi : i < len then Classical.choose (key i hi) else Q.z63
  have hg : ∀ i (hi : i < len), g i = Classical.choose (key i hi) := fun i hi => dif_pos hi
  have hlen : ((List.range len).map g).length = len := by simp
  have hmax : maxLen = 9223372036854775807 := rfl
  refine ⟨some a, m, (List.range len).map g, by rw [hlen]; exact hcs, by rw [hlen]; exact hl, ⟨rfl, by rw [hlen]; omega, fun _ => ⟨a, rfl, fun j p hp => ?_⟩⟩, wfL_of fun x hx => ?_⟩
  ·
   have hj : j < len := by have := (List.getElem?_eq_some_iff.1 hp).1; rw [hlen] at this; exact this
   have hp' : g j = p := by
    have := hp
    rw [List.getElem?_map, List.getElem?_range hj] at this
    exact Option.some.inj this
   have hs := Classical.choose_spec (key j hj)
   rw [← hg j hj, hp'] at hs
   exact ⟨_, rfl, k63_mk W p, fun i u hu => hs.2 i u hu⟩
  ·
   obtain ⟨i, hi, rfl⟩ := List.mem_map.1 hx
   have hi := List.mem_range.1 hi
   rw [hg i hi]
   exact (Classical.choose_spec (key i hi)).1
set_option maxRecDepth 100000 in
theorem cal_open {r : Reach} {b0 : Nat} {v : Value} {d : DataW K} {p : List MemPlace} (hv : Value.okWide Try.prog W r b0 24 v) (h : DataW.Trod enc Try.prog W 0 (fun _ => true) true 24 v d p) :
  ∃ (we : Int) (A : Option Addr) (c : Nat) (l : List S63), v = .agg #[.int .i64 we, .slice A l.length c] ∧ l.length ≤ c ∧ Kd.C k63 W A l.length l ∧ wfL l ∧ L.i64 we := by
 obtain ⟨c0, c1, y0, y1, m, rfl, _, _, hy0, hy1⟩ := open_agg2 Try.underlying24 (by kernel_rfl) cells24 hv h
 obtain ⟨a, e0, _, wa⟩ := DataW.trod_int Try.underlying3 hy0
 obtain rfl := (List.cons.inj e0).1
 obtain ⟨A, c, l, rfl, hc, hk, hw⟩ := rules_open hy1
 exact ⟨a, A, c, l, rfl, hc, hk, hw, i64_of wa⟩
end Go.Proofs.Ytoncignjcgjhhaa.O
namespace Go.Proofs.Ytoncignjcgjhhaa.O
open Go.ChangeShapes Go.WideShapes Go.ChangeAt Go.RowKit Go.Deep Go.Joins
open Go.Proofs.YtoncignjcgjhhaaW.PrintWords
open Go.Proofs.Ytoncignjcgjhhaa.Q (S63 k63 k63_mk wfL wfL_of)
variable {K : Type} {enc : TypeId × Value → K} {W : World}
theorem cells66 : Try.prog.cellsOf 66 = 10 := by kernel_rfl
theorem cells3 : Try.prog.cellsOf 3 = 1 := by kernel_rfl
theorem cells22 : Try.prog.cellsOf 22 = 1 := by kernel_rfl
set_option maxRecDepth 100000 in
theorem spec_open {r : Reach} {b0 : Nat} {v : Value} {d : DataW K} {p : List MemPlace} (hv : Value.okWide Try.prog W r b0 66 v) (h : DataW.Trod enc Try.prog W 0 (fun _ => true) true 66 v d p) :
  ∃ (s0 s1 s2 s3 s4 s5 s6 s7 we : Int) (A : Option Addr) (c : Nat) (l : List S63), v = .agg #[.int .i64 s0, .int .i64 s1, .int .i64 s2, .int .i64 s3, .int .i64 s4, .int .i64 s5, .int .i64 s6, .int .i64 s7, .int .i64 we, .slice A l.length c] ∧ l.length ≤ c ∧ Kd.C k63 W A l.length l ∧ wfL l := by
 obtain ⟨cs, rfl, hsz⟩ := okWide_struct Try.underlying66 hv
 rw [cells66] at hsz
 obtain ⟨fuel, hf⟩ := h
 obtain ⟨ls⟩ := cs
 match ls, hsz with
 | [c0, c1, c2, c3, c4, c5, c6, c7, c8, c9], _ =>
  have hf' : DataW.trod enc Try.prog W 0 (fun _ => true) true fuel 66 [c0, c1, c2, c3, c4, c5, c6, c7, c8, c9] = some (d, p) := hf
  obtain ⟨ys, n', _, _, _, hyl, hfl⟩ := DataW.trod_struct Try.underlying66 hf'
  have hy : ∀ j, j < 9 → ∃ y, ys[j]? = some y := fun j hj => ⟨_, List.getElem?_eq_getElem (by rw [hyl]; exact hj)⟩
  have key : ∀ (j : Nat) (c : Value), j < 9 → DataW.trod enc Try.prog W 0 (fun _ => true) true n' 3 [c] = ys[j]? → ∃ a, c = .int .i64 a := by
   intro j c hj h1
   obtain ⟨y, e⟩ := hy j hj
   obtain ⟨a, e0, _, _⟩ := DataW.trod_int Try.underlying3 (h1.trans e)
   exact ⟨a, (List.cons.inj e0).1⟩
  have h0 : DataW.trod enc Try.prog W 0 (fun _ => true) true n' 3 (([c0, c1, c2, c3, c4, c5, c6, c7, c8, c9].drop 0).take (Try.prog.cellsOf 3)) = ys[0]? := hfl 0 _ rfl
  rw [cells3] at h0
  have h1 : DataW.trod enc Try.prog W 0 (fun _ => true) true n' 3 (([c0, c1, c2, c3, c4, c5, c6, c7, c8, c9].drop 1).take (Try.prog.cellsOf 3)) = ys[1]? := hfl 1 _ rfl
  rw [cells3] at h1
  have h2 : DataW.trod enc Try.prog W 0 (fun _ => true) true n' 3 (([c0, c1, c2, c3, c4, c5, c6, c7, c8, c9].drop 2).take (Try.prog.cellsOf 3)) = ys[2]? := hfl 2 _ rfl
  rw [cells3] at h2
  have h3 : DataW.trod enc Try.prog W 0 (fun _ => true) true n' 3 (([c0, c1, c2, c3, c4, c5, c6, c7, c8, c9].drop 3).take (Try.prog.cellsOf 3)) = ys[3]? := hfl 3 _ rfl
  rw [cells3] at h3
  have h4 : DataW.trod enc Try.prog W 0 (fun _ => true) true n' 3 (([c0, c1, c2, c3, c4, c5, c6, c7, c8, c9].drop 4).take (Try.prog.cellsOf 3)) = ys[4]? := hfl 4 _ rfl
  rw [cells3] at h4
  have h5 : DataW.trod enc Try.prog W 0 (fun _ => true) true n' 3 (([c0, c1, c2, c3, c4, c5, c6, c7, c8, c9].drop 5).take (Try.prog.cellsOf 3)) = ys[5]? := hfl 5 _ rfl
  rw [cells3] at h5
  have h6 : DataW.trod enc Try.prog W 0 (fun _ => true) true n' 3 (([c0, c1, c2, c3, c4, c5, c6, c7, c8, c9].drop 6).take (Try.prog.cellsOf 3)) = ys[6]? := hfl 6 _ rfl
  rw [cells3] at h6
  have h7 : DataW.trod enc Try.prog W 0 (fun _ => true) true n' 3 (([c0, c1, c2, c3, c4, c5, c6, c7, c8, c9].drop 7).take (Try.prog.cellsOf 3)) = ys[7]? := hfl 7 _ rfl
  rw [cells3] at h7
  have h8 : DataW.trod enc Try.prog W 0 (fun _ => true) true n' 24 (([c0, c1, c2, c3, c4, c5, c6, c7, c8, c9].drop 8).take (Try.prog.cellsOf 24)) = ys[8]? := hfl 8 _ rfl
  rw [cells24] at h8
  obtain ⟨s0, rfl⟩ := key 0 c0 (by omega) h0
  obtain ⟨s1, rfl⟩ := key 1 c1 (by omega) h1
  obtain ⟨s2, rfl⟩ := key 2 c2 (by omega) h2
  obtain ⟨s3, rfl⟩ := key 3 c3 (by omega) h3
  obtain ⟨s4, rfl⟩ := key 4 c4 (by omega) h4
  obtain ⟨s5, rfl⟩ := key 5 c5 (by omega) h5
  obtain ⟨s6, rfl⟩ := key 6 c6 (by omega) h6
  obtain ⟨s7, rfl⟩ := key 7 c7 (by omega) h7
  obtain ⟨y8, e8⟩ := hy 8 (by omega)
  have h8' : DataW.trod enc Try.prog W 0 (fun _ => true) true n' 24 [c8, c9] = some y8 := h8.trans e8
  obtain ⟨zs, n2, _, _, _, hzl, hz⟩ := DataW.trod_struct Try.underlying24 h8'
  have g0 : DataW.trod enc Try.prog W 0 (fun _ => true) true n2 3 (([c8, c9].drop 0).take (Try.prog.cellsOf 3)) = zs[0]? := hz 0 _ rfl
  have g1 : DataW.trod enc Try.prog W 0 (fun _ => true) true n2 22 (([c8, c9].drop 1).take (Try.prog.cellsOf 22)) = zs[1]? := hz 1 _ rfl
  rw [cells3] at g0
  rw [cells22] at g1
  have hz2 : ∀ j, j < 2 → ∃ y, zs[j]? = some y := fun j hj => ⟨_, List.getElem?_eq_getElem (by rw [hzl]; exact hj)⟩
  obtain ⟨z0, f0⟩ := hz2 0 (by omega)
  obtain ⟨z1, f1⟩ := hz2 1 (by omega)
  obtain ⟨we, e0, _, _⟩ := DataW.trod_int Try.underlying3 (g0.trans f0)
  obtain rfl := (List.cons.inj e0).1
  obtain ⟨A, c, l, e1, hc, hk, hw⟩ := rules_open (v := c9) (g1.trans f1)
  subst e1
  exact ⟨s0, s1, s2, s3, s4, s5, s6, s7, we, A, c, l, rfl, hc, hk, hw⟩
end Go.Proofs.Ytoncignjcgjhhaa.O
