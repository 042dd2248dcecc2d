/- The part of a year, in the program and in the document: one plain function. Condition: the rules' numbers are of 64 bits. -/
import Derived.Test.YtoncignjcgjhhaaZRefF
import Derived.Test.YtoncignjcgjhhaaZGD
import Derived.Test.YtoncignjcgjhhaaZOQx13
import Derived.Test.YtoncignjcgjhhaaZOQx29
import Derived.Test.YtoncignjcgjhhaaZO
set_option linter.unusedVariables false
set_option linter.unusedSimpArgs false
namespace Go.Proofs.Ytoncignjcgjhhaa.N
open Go.RowKit Go.Proofs.YtoncignjcgjhhaaW.PrintWords Go.Proofs.YtoncignjcgjhhaaW.PrintLast Go.Proofs.YtoncignjcgjhhaaW.PrintMore
open Go.Proofs.Ytoncignjcgjhhaa.Q
open Go.Proofs.Ytoncignjcgjhhaa.L (w64 td tm tm0)
theorem ev_ite {α : Type} {p : Prop} [Decidable p] {g h : Nat → Option α} {r : α} (h1 : p → Ev g r) (h2 : ¬ p → Ev h r) : Ev (fun q => if p then g q else h q) r := by
  by_cases hp : p
  · exact Ev.congr (fun q => if_pos hp) (h1 hp)
  · exact Ev.congr (fun q => if_neg hp) (h2 hp)
/-- The days of the leap years ahead of the year 1900 + f. -/
def lsum : Nat → Int
  | 0 => 0
  | f + 1 => lsum f + (if M.leap (1900 + (f : Int)) = true then 366 else 0)
theorem lsum_rng : ∀ f, 0 ≤ lsum f ∧ lsum f ≤ 366 * f
  | 0 => by unfold lsum; omega
  | f + 1 => by have := lsum_rng f; unfold lsum; split <;> (push_cast; omega)
/-- The days in leap years ahead of n, n in the year y or its end. -/
def ly (y n : Int) : Int := lsum (y - 1900).toNat + (if M.leap y = true then n - M.before y else 0)
def leaps (n : Int) : Int := ly (M.civY n) n
theorem ly_end {y : Int} (h : 1900 ≤ y) : ly (y + 1) (M.before (y + 1)) = ly y (M.before (y + 1)) := by
  unfold ly
  rw [show (y + 1 - 1900).toNat = (y - 1900).toNat + 1 by omega, lsum, show 1900 + ((y - 1900).toNat : Int) = y by omega]
  have hb := M.before_succ y
  have e : M.before (y + 1) - M.before (y + 1) = 0 := by omega
  rw [e]
  have e2 : (if M.leap (y + 1) = true then (0 : Int) else 0) = 0 := by split <;> rfl
  rw [e2]
  cases hl : M.leap y with
  | true => unfold M.lp at hb; rw [hl, if_pos rfl] at hb; rw [if_pos rfl, if_pos rfl]; omega
  | false => rw [if_neg (by decide), if_neg (by decide)]; omega
theorem civ_day {n : Int} (h : 0 ≤ n ∧ n ≤ 109572) : 1900 ≤ M.civY n ∧ M.civY n ≤ 2199 ∧ M.before (M.civY n) ≤ n ∧ n < M.before (M.civY n + 1) := M.yearOf_spec n h.1 h.2
theorem leaps_y {y n : Int} (hy : 1900 ≤ y) (hn : 0 ≤ n ∧ n ≤ 109572) (h1 : M.before y ≤ n) (h2 : n ≤ M.before (y + 1)) : leaps n = ly y n := by
  obtain ⟨c1, c2, c3, c4⟩ := civ_day hn
  unfold leaps
  by_cases he : n = M.before (y + 1)
  · have hy2 : M.before (y + 1) < M.before (y + 1 + 1) := by have := M.before_succ (y + 1); have := M.lp_01 (y + 1); omega
    have : M.civY n = y + 1 := M.year_unique c3 c4 (by omega) (by omega)
    rw [this, he, ly_end hy]
  · have : M.civY n = y := M.year_unique c3 c4 h1 (by omega)
    rw [this]
theorem ly_rng {y n : Int} (hy : 1900 ≤ y ∧ y ≤ 2200) (h1 : M.before y ≤ n) (h2 : n ≤ M.before (y + 1)) : 0 ≤ ly y n ∧ ly y n ≤ 200000 := by
  have := lsum_rng (y - 1900).toNat
  have hb := M.before_succ y
  have := M.lp_01 y
  unfold ly; split <;> omega
/-- What the actual count tells of a day. -/
def act (n : Int) : Int := 366 * n - leaps n
def thirty (e : Bool) (a b : Int) : Int :=
  if e = true then wrap64 (wrap64 (wrap64 (wrap64 (360 * wrap64 (M.civY b - M.civY a)) + wrap64 (30 * wrap64 (M.civM b - M.civM a))) + mn (M.civD b) 30) - mn (M.civD a) 30)
  else if mn (M.civD a) 30 = 30 then wrap64 (wrap64 (wrap64 (wrap64 (360 * wrap64 (M.civY b - M.civY a)) + wrap64 (30 * wrap64 (M.civM b - M.civM a))) + mn (M.civD b) 30) - mn (M.civD a) 30)
  else wrap64 (wrap64 (wrap64 (wrap64 (360 * wrap64 (M.civY b - M.civY a)) + wrap64 (30 * wrap64 (M.civM b - M.civM a))) + M.civD b) - mn (M.civD a) 30)
/-- The part of a year, a ≤ b. -/
noncomputable def up (kind we : Int) (l : List S63) (a b : Int) : Int × Int × Int :=
  if kind = 1 then (b - a, 360, 0) else if kind = 2 then (b - a, 365, 0) else if kind = 3 then (act b - act a, 133590, 0)
  else if kind = 4 then (thirty false a b, 360, 0) else if kind = 5 then (thirty true a b, 360, 0)
  else ((M.Count we (l.map H.ru) a b).1, 252, (M.Count we (l.map H.ru) a b).2)
open Classical in
/-- The part of a year. -/
noncomputable def frac (kind we : Int) (l : List S63) (a b : Int) : Int × Int × Int :=
  if kind < 1 ∨ 6 < kind then (0, 0, 70)
  else if kind = 6 ∧ ¬ (M.chk we (l.map H.ru)).1 = 0 then (0, 0, (M.chk we (l.map H.ru)).1)
  else if ¬ ((0 ≤ a ∧ a ≤ 109572) ∧ (0 ≤ b ∧ b ≤ 109572)) then (0, 0, 51)
  else if b < a then (wrap64 (-(up kind we l b a).1), (up kind we l b a).2.1, (up kind we l b a).2.2) else up kind we l a b

/-! The program -/
theorem cis (n : Int) : count_is.f n = some (decide (0 ≤ n ∧ n ≤ 109572)) := by
  unfold count_is.f
  by_cases h : n ≥ 0
  · rw [if_pos h]; simp [h]
  · rw [if_neg h]; simp; omega
theorem leaps_l0 (n : Int) (hn : 0 ≤ n ∧ n ≤ 109572) : ∀ (f : Nat) (i : Nat), 1900 + (i : Int) + f = M.civY n → Ev (fun k => count_leaps.l0 k n (M.civY n) (lsum i) (1900 + (i : Int))) (leaps n)
  | 0, i, hf => by
    obtain ⟨c1, c2, c3, c4⟩ := civ_day hn
    refine Ev.step (fun k => by rw [count_leaps.l0, if_neg (by omega), L.leap, Option.bind_some]) ?_
    have hi : i = (M.civY n - 1900).toNat := by omega
    unfold leaps ly
    refine ev_ite (fun hl => ?_) (fun hl => ?_)
    · rw [if_pos hl]
      have hd : M.isDate (M.civY n) 1 1 := by have := M.mlen_rng (M.civY n) 1; unfold M.isDate; omega
      have ho := L.Of (M.civY n) 1 1
      rw [if_pos hd] at ho
      refine Ev.bind ho (Ev.congr (f := fun _ => some (lsum (M.civY n - 1900).toNat + (n - M.before (M.civY n)))) (fun k => ?_) (Ev.now _))
      have hdo : M.dayOf (M.civY n) 1 1 = M.before (M.civY n) := by unfold M.dayOf; rw [M.cum_1]; omega
      have hr := lsum_rng i
      have hb := M.day_rng hd
      rw [hdo] at hb
      simp only [hdo]
      rw [w64 (x := n - M.before (M.civY n)) (by omega) (by omega), w64 (by omega) (by omega), hi]
    · rw [if_neg hl, hi, Int.add_zero]
      exact Ev.now _
  | f + 1, i, hf => by
    obtain ⟨c1, c2, c3, c4⟩ := civ_day hn
    have hr := lsum_rng i
    have hw1 : wrap64 (lsum i + 366) = lsum i + 366 := w64 (by omega) (by omega)
    have hw2 : wrap64 (1900 + (i : Int) + 1) = 1900 + ((i + 1 : Nat) : Int) := by rw [w64 (by omega) (by omega)]; push_cast; omega
    have hrec := leaps_l0 n hn f (i + 1) (by push_cast; omega)
    refine Ev.step (fun k => by rw [count_leaps.l0, if_pos (by omega), L.leap, Option.bind_some, hw1, hw2]) ?_
    rw [lsum] at hrec
    refine ev_ite (fun hl => ?_) (fun hl => ?_)
    · rw [if_pos hl] at hrec; exact hrec
    · rw [if_neg hl, Int.add_zero] at hrec; exact hrec
theorem cleaps (n : Int) (hn : 0 ≤ n ∧ n ≤ 109572) : Ev (fun k => count_leaps.f k n) (leaps n) := by
  obtain ⟨c1, c2, c3, c4⟩ := civ_day hn
  have hc := L.Civil n
  rw [if_pos hn] at hc
  refine Ev.congr (fun k => by unfold count_leaps.f; rfl) (Ev.bind hc ?_)
  have := leaps_l0 n hn (M.civY n - 1900).toNat 0 (by push_cast; omega)
  exact this
theorem cthirty (e : Bool) (a b : Int) (ha : 0 ≤ a ∧ a ≤ 109572) (hb : 0 ≤ b ∧ b ≤ 109572) : Ev (fun k => count_thirty.f k a b e) (thirty e a b) := by
  have hc := L.Civil a
  rw [if_pos ha] at hc
  have hd := L.Civil b
  rw [if_pos hb] at hd
  refine Ev.congr (fun k => by unfold count_thirty.f; rfl) (Ev.bind hc (Ev.bind hd ?_))
  unfold thirty
  refine ev_ite (fun h => ?_) (fun h => ev_ite (fun h2 => ?_) (fun h2 => ?_))
  · rw [if_pos h]; exact Ev.now _
  · rw [if_neg h, if_pos h2]; exact Ev.now _
  · rw [if_neg h, if_neg h2]; exact Ev.now _
theorem leaps_rng {n : Int} (hn : 0 ≤ n ∧ n ≤ 109572) : 0 ≤ leaps n ∧ leaps n ≤ 200000 := by
  obtain ⟨c1, c2, c3, c4⟩ := civ_day hn
  exact ly_rng ⟨c1, by omega⟩ c3 (by omega)
theorem cCount {l : List S63} (hw : wfL l) (we a b : Int) : cal_Count.f we l a b = some (M.Count we (l.map H.ru) a b) := if_pos hw
theorem cChk {l : List S63} (hw : wfL l) (we : Int) : cal_Check.f we l = some (M.chk we (l.map H.ru)) := if_pos hw
theorem cj2 (kind we : Int) (l : List S63) (a b : Int) (hw : wfL l) (hk : 1 ≤ kind ∧ kind ≤ 6) (ha : 0 ≤ a ∧ a ≤ 109572) (hb : 0 ≤ b ∧ b ≤ 109572) (h : ¬ b < a) : Ev (fun k => count_Fraction.j2 k kind a b 0 0 false we l) (up kind we l a b) := by
  refine Ev.step (fun k => by rw [count_Fraction.j2, if_neg (by decide), if_neg h]) ?_
  have hw1 : wrap64 (b - a) = b - a := w64 (by omega) (by omega)
  unfold up
  refine ev_ite (fun k2 => ?_) (fun k2 => ev_ite (fun k1 => ?_) (fun k1 => ev_ite (fun k3 => ?_) (fun k3 => ev_ite (fun k5 => ?_) (fun k5 => ev_ite (fun k4 => ?_) (fun k4 => ev_ite (fun k6 => ?_) (fun k6 => ?_))))))
  · rw [if_neg (show ¬ kind = 1 by omega), if_pos k2, hw1]; exact Ev.now _
  · rw [if_pos k1, hw1]; exact Ev.now _
  · rw [if_neg k1, if_neg k2, if_pos k3]
    refine Ev.bind (cleaps b hb) (Ev.bind (cleaps a ha) (Ev.congr (f := fun _ => some (act b - act a, 133590, 0)) (fun k => ?_) (Ev.now _)))
    have r1 := leaps_rng ha
    have r2 := leaps_rng hb
    rw [hw1, w64 (x := leaps b - leaps a) (by omega) (by omega), w64 (x := b - a - (leaps b - leaps a)) (by omega) (by omega), w64 (x := 366 * (b - a - (leaps b - leaps a))) (by omega) (by omega), w64 (x := 365 * (leaps b - leaps a)) (by omega) (by omega), w64 (by omega) (by omega)]
    unfold act
    congr 2
    omega
  · rw [if_neg k1, if_neg k2, if_neg k3, if_neg (show ¬ kind = 4 by omega), if_pos k5]
    exact Ev.bind (cthirty true a b ha hb) (Ev.now _)
  · rw [if_neg k1, if_neg k2, if_neg k3, if_pos k4]
    exact Ev.bind (cthirty false a b ha hb) (Ev.now _)
  · rw [if_neg k1, if_neg k2, if_neg k3, if_neg k4, if_neg k5]
    exact Ev.congr (fun k => by rw [cCount hw, Option.bind_some]) (Ev.now _)
  · omega
theorem cUp (kind we : Int) (l : List S63) (a b : Int) (hw : wfL l) (hk : 1 ≤ kind ∧ kind ≤ 6) (hc : kind = 6 → (M.chk we (l.map H.ru)).1 = 0) (ha : 0 ≤ a ∧ a ≤ 109572) (hb : 0 ≤ b ∧ b ≤ 109572) (R : Int × Int × Int) (h : Ev (fun k => count_Fraction.j2 k kind a b 0 0 false we l) R) : Ev (fun k => count_Fraction.f k kind we l a b) R := by
  have hj1 : Ev (fun k => count_Fraction.j1 k kind a b 0 0 we l) R :=
    Ev.step (fun k => by rw [count_Fraction.j1, cis, Option.bind_some, decide_eq_true ha, if_pos rfl, cis, Option.bind_some, decide_eq_true hb]; rfl) h
  refine Ev.step (fun k => by rw [count_Fraction.f, if_neg (by omega), decide_eq_false (by omega)]) ?_
  refine Ev.step (fun k => by rw [count_Fraction.j0, if_neg (by decide)]) ?_
  refine ev_ite (fun k6 => ?_) (fun _ => hj1)
  exact Ev.congr (fun k => by rw [cChk hw, Option.bind_some, if_pos (hc k6)]) hj1
theorem cFrac (kind we : Int) (l : List S63) (a b : Int) (hw : wfL l) : Ev (fun k => count_Fraction.f k kind we l a b) (frac kind we l a b) := by
  unfold frac
  by_cases hk : kind < 1 ∨ 6 < kind
  · rw [if_pos hk]
    have hj : Ev (fun k => count_Fraction.j0 k kind a b 0 0 true we l) ((0, 0, 70) : Int × Int × Int) := Ev.step (fun k => by rw [count_Fraction.j0, if_pos rfl]) (Ev.now _)
    refine Ev.step (fun k => by rw [count_Fraction.f]) (ev_ite (fun _ => hj) (fun h => ?_))
    exact Ev.congr (fun k => by rw [decide_eq_true (show kind > 6 by omega)]) hj
  · rw [if_neg hk]
    by_cases hc : kind = 6 ∧ ¬ (M.chk we (l.map H.ru)).1 = 0
    · rw [if_pos hc]
      refine Ev.step (fun k => by rw [count_Fraction.f, if_neg (by omega), decide_eq_false (by omega)]) ?_
      refine (Ev.step (f := fun _ => some ((0, 0, (M.chk we (l.map H.ru)).1) : Int × Int × Int)) (fun k => by rw [count_Fraction.j0, if_neg (by decide), if_pos hc.1, cChk hw, Option.bind_some, if_neg hc.2]) (Ev.now _))
    · rw [if_neg hc]
      have hc6 : kind = 6 → (M.chk we (l.map H.ru)).1 = 0 := fun h => Classical.byContradiction (fun hn => hc ⟨h, hn⟩)
      by_cases hd : (0 ≤ a ∧ a ≤ 109572) ∧ (0 ≤ b ∧ b ≤ 109572)
      · rw [if_neg (fun h => h hd)]
        by_cases hlt : b < a
        · rw [if_pos hlt]
          refine cUp kind we l a b hw (by omega) hc6 hd.1 hd.2 _ (Ev.step (fun k => by rw [count_Fraction.j2, if_neg (by decide), if_pos hlt]) ?_)
          exact Ev.bind (cUp kind we l b a hw (by omega) hc6 hd.2 hd.1 _ (cj2 kind we l b a hw (by omega) hd.2 hd.1 (by omega))) (Ev.now _)
        · rw [if_neg hlt]
          exact cUp kind we l a b hw (by omega) hc6 hd.1 hd.2 _ (cj2 kind we l a b hw (by omega) hd.1 hd.2 hlt)
      · rw [if_pos hd]
        have hj2 : Ev (fun k => count_Fraction.j2 k kind a b 0 0 true we l) ((0, 0, 51) : Int × Int × Int) := Ev.step (fun k => by rw [count_Fraction.j2, if_pos rfl]) (Ev.now _)
        have hj1 : Ev (fun k => count_Fraction.j1 k kind a b 0 0 we l) ((0, 0, 51) : Int × Int × Int) := by
          by_cases ha : 0 ≤ a ∧ a ≤ 109572
          · have hb : ¬ (0 ≤ b ∧ b ≤ 109572) := fun h => hd ⟨ha, h⟩
            exact Ev.step (fun k => by rw [count_Fraction.j1, cis, Option.bind_some, decide_eq_true ha, if_pos rfl, cis, Option.bind_some, decide_eq_false hb]; rfl) hj2
          · exact Ev.step (fun k => by rw [count_Fraction.j1, cis, Option.bind_some, decide_eq_false ha, if_neg (by decide)]) hj2
        refine Ev.step (fun k => by rw [count_Fraction.f, if_neg (by omega), decide_eq_false (by omega)]) ?_
        refine Ev.step (fun k => by rw [count_Fraction.j0, if_neg (by decide)]) ?_
        refine ev_ite (fun k6 => ?_) (fun _ => hj1)
        exact Ev.congr (fun k => by rw [cChk hw, Option.bind_some, if_pos (hc6 k6)]) hj1
end Go.Proofs.Ytoncignjcgjhhaa.N
