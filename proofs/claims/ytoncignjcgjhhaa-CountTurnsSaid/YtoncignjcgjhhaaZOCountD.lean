/- The part of a year rises with the second day, and turns its sign where the days are turned. Condition: the rules' numbers are of 64 bits. -/
import Derived.Test.YtoncignjcgjhhaaZOCountC
import Derived.Test.YtoncignjcgjhhaaZOCYear
import Derived.Test.YtoncignjcgjhhaaZOFloatS
import Derived.Test.YtoncignjcgjhhaaZO
set_option linter.unusedVariables false
set_option linter.unusedSimpArgs false
namespace Go.Proofs.Ytoncignjcgjhhaa.N
open Go.RowKit Go.Proofs.YtoncignjcgjhhaaW.PrintWords Go.Proofs.YtoncignjcgjhhaaW.PrintLast Go.Proofs.YtoncignjcgjhhaaW.PrintMore
open Go.Proofs.Ytoncignjcgjhhaa.Q
open Go.Proofs.Ytoncignjcgjhhaa.L (w64 td tm tm0)
/-- Months by thirty and days, as they are counted. -/
def cd (e : Bool) (a b : Int) : Int := if e = true then mn (M.civD b) 30 else if mn (M.civD a) 30 = 30 then mn (M.civD b) 30 else M.civD b
def thP (e : Bool) (a b : Int) : Int := 360 * (M.civY b - M.civY a) + 30 * (M.civM b - M.civM a) + cd e a b - mn (M.civD a) 30
theorem civ_all {n : Int} (h : 0 ≤ n ∧ n ≤ 109572) : (1900 ≤ M.civY n ∧ M.civY n ≤ 2199) ∧ (1 ≤ M.civM n ∧ M.civM n ≤ 12) ∧ (1 ≤ M.civD n ∧ M.civD n ≤ 31) := by
  obtain ⟨hd, _⟩ := M.civ_spec n h.1 h.2
  have hl := M.mlen_rng (M.civY n) (M.civM n)
  unfold M.isDate at hd
  omega
theorem thirty_eq (e : Bool) {a b : Int} (ha : 0 ≤ a ∧ a ≤ 109572) (hb : 0 ≤ b ∧ b ≤ 109572) : thirty e a b = thP e a b := by
  obtain ⟨⟨a1, a2⟩, ⟨a3, a4⟩, a5, a6⟩ := civ_all ha
  obtain ⟨⟨b1, b2⟩, ⟨b3, b4⟩, b5, b6⟩ := civ_all hb
  have key : ∀ c d : Int, 1 ≤ c → c ≤ 31 → 1 ≤ d → d ≤ 31 → wrap64 (wrap64 (wrap64 (wrap64 (360 * wrap64 (M.civY b - M.civY a)) + wrap64 (30 * wrap64 (M.civM b - M.civM a))) + c) - d) = 360 * (M.civY b - M.civY a) + 30 * (M.civM b - M.civM a) + c - d := by
    intro c d c1 c2 d1 d2
    rw [w64 (x := M.civY b - M.civY a) (by omega) (by omega), w64 (x := M.civM b - M.civM a) (by omega) (by omega), w64 (x := 360 * (M.civY b - M.civY a)) (by omega) (by omega), w64 (x := 30 * (M.civM b - M.civM a)) (by omega) (by omega), w64 (x := 360 * (M.civY b - M.civY a) + 30 * (M.civM b - M.civM a)) (by omega) (by omega), w64 (x := 360 * (M.civY b - M.civY a) + 30 * (M.civM b - M.civM a) + c) (by omega) (by omega), w64 (by omega) (by omega)]
  have m1 : 1 ≤ mn (M.civD a) 30 ∧ mn (M.civD a) 30 ≤ 31 := by unfold mn; split <;> omega
  have m2 : 1 ≤ mn (M.civD b) 30 ∧ mn (M.civD b) 30 ≤ 31 := by unfold mn; split <;> omega
  unfold thirty thP cd
  by_cases h1 : e = true
  · rw [if_pos h1, if_pos h1]; exact key _ _ m2.1 m2.2 m1.1 m1.2
  · rw [if_neg h1, if_neg h1]
    by_cases h2 : mn (M.civD a) 30 = 30
    · rw [if_pos h2, if_pos h2]; exact key _ _ m2.1 m2.2 m1.1 m1.2
    · rw [if_neg h2, if_neg h2]; exact key _ _ b5 b6 m1.1 m1.2
/-- A later day's month is later, or it is a later day of the month. -/
theorem civ_le {a b : Int} (ha : 0 ≤ a ∧ a ≤ 109572) (hb : 0 ≤ b ∧ b ≤ 109572) (h : a ≤ b) : 12 * M.civY a + M.civM a < 12 * M.civY b + M.civM b ∨ (12 * M.civY a + M.civM a = 12 * M.civY b + M.civM b ∧ M.civD a ≤ M.civD b) := by
  obtain ⟨⟨a1, a2⟩, ⟨a3, a4⟩, a5, a6⟩ := civ_all ha
  obtain ⟨⟨b1, b2⟩, ⟨b3, b4⟩, b5, b6⟩ := civ_all hb
  obtain ⟨c1, c2, c3, c4⟩ := civ_day ha
  obtain ⟨d1, d2, d3, d4⟩ := civ_day hb
  obtain ⟨e1, e2⟩ := M.civ_spec a ha.1 ha.2
  obtain ⟨f1, f2⟩ := M.civ_spec b hb.1 hb.2
  unfold M.isDate at e1 f1
  unfold M.dayOf at e2 f2
  rcases Int.lt_trichotomy (M.civY a) (M.civY b) with hy | hy | hy
  · left; omega
  · rw [hy] at e1 e2 ⊢
    rcases Int.lt_trichotomy (M.civM a) (M.civM b) with hm | hm | hm
    · left; omega
    · right; rw [hm] at e2 ⊢; omega
    · exfalso
      have g1 := M.cum_succ (M.civY b) (M.civM b) (by omega) (by omega)
      have g2 := M.cum_le (M.civY b) (a := M.civM b + 1) (b := M.civM a) (by omega) (by omega) (by omega)
      omega
  · exfalso
    have := M.before_le (a := M.civY b + 1) (b := M.civY a) (by omega)
    omega
theorem thP_rise (e : Bool) {a b c : Int} (_ : 0 ≤ a ∧ a ≤ 109572) (hb : 0 ≤ b ∧ b ≤ 109572) (hc : 0 ≤ c ∧ c ≤ 109572) (h : b ≤ c) : thP e a b ≤ thP e a c := by
  obtain ⟨⟨b1, b2⟩, ⟨b3, b4⟩, b5, b6⟩ := civ_all hb
  obtain ⟨⟨c1, c2⟩, ⟨c3, c4⟩, c5, c6⟩ := civ_all hc
  have hl := civ_le hb hc h
  unfold thP cd mn
  rcases hl with hl | ⟨hl, hd⟩ <;> (repeat' split) <;> omega
theorem thP_fall (e : Bool) {a b c : Int} (ha : 0 ≤ a ∧ a ≤ 109572) (hb : 0 ≤ b ∧ b ≤ 109572) (hc : 0 ≤ c ∧ c ≤ 109572) (h : b ≤ c) : thP e c a ≤ thP e b a := by
  obtain ⟨⟨a1, a2⟩, ⟨a3, a4⟩, a5, a6⟩ := civ_all ha
  obtain ⟨⟨b1, b2⟩, ⟨b3, b4⟩, b5, b6⟩ := civ_all hb
  obtain ⟨⟨c1, c2⟩, ⟨c3, c4⟩, c5, c6⟩ := civ_all hc
  have hl := civ_le hb hc h
  unfold thP cd mn
  rcases hl with hl | ⟨hl, hd⟩ <;> (repeat' split) <;> omega
theorem thP_self (e : Bool) {a : Int} (ha : 0 ≤ a ∧ a ≤ 109572) : thP e a a = 0 := by
  obtain ⟨⟨a1, a2⟩, ⟨a3, a4⟩, a5, a6⟩ := civ_all ha
  unfold thP cd mn
  (repeat' split) <;> omega
theorem thP_rng (e : Bool) {a b : Int} (ha : 0 ≤ a ∧ a ≤ 109572) (hb : 0 ≤ b ∧ b ≤ 109572) : -200000 ≤ thP e a b ∧ thP e a b ≤ 200000 := by
  obtain ⟨⟨a1, a2⟩, ⟨a3, a4⟩, a5, a6⟩ := civ_all ha
  obtain ⟨⟨b1, b2⟩, ⟨b3, b4⟩, b5, b6⟩ := civ_all hb
  unfold thP cd mn
  (repeat' split) <;> omega
theorem lsum_le : ∀ (g f : Nat), lsum (f + g) - lsum f ≤ M.before (1900 + ((f + g : Nat) : Int)) - M.before (1900 + (f : Int))
  | 0, f => by rw [Nat.add_zero]; omega
  | g + 1, f => by
    have h := lsum_le g f
    have hs := M.before_succ (1900 + ((f + g : Nat) : Int))
    have hl := M.lp_01 (1900 + ((f + g : Nat) : Int))
    rw [show f + (g + 1) = (f + g) + 1 by omega, lsum, show 1900 + ((f + g + 1 : Nat) : Int) = 1900 + ((f + g : Nat) : Int) + 1 by push_cast; omega]
    unfold M.lp at hs hl
    split
    · rename_i h1; rw [if_pos h1] at hs; omega
    · omega
theorem leaps_le {a b : Int} (ha : 0 ≤ a ∧ a ≤ 109572) (hb : 0 ≤ b ∧ b ≤ 109572) (h : a ≤ b) : leaps b - leaps a ≤ b - a := by
  obtain ⟨c1, c2, c3, c4⟩ := civ_day ha
  obtain ⟨d1, d2, d3, d4⟩ := civ_day hb
  rcases Int.lt_trichotomy (M.civY a) (M.civY b) with hy | hy | hy
  · have hl := lsum_le (M.civY b - (M.civY a + 1)).toNat (M.civY a + 1 - 1900).toNat
    have hs := M.before_succ (M.civY a)
    rw [show (M.civY a + 1 - 1900).toNat + (M.civY b - (M.civY a + 1)).toNat = (M.civY b - 1900).toNat by omega, show 1900 + (((M.civY b - 1900).toNat : Nat) : Int) = M.civY b by omega, show 1900 + (((M.civY a + 1 - 1900).toNat : Nat) : Int) = M.civY a + 1 by omega, show (M.civY a + 1 - 1900).toNat = (M.civY a - 1900).toNat + 1 by omega, lsum, show 1900 + ((M.civY a - 1900).toNat : Int) = M.civY a by omega] at hl
    have hlp := M.lp_01 (M.civY a)
    unfold leaps ly
    unfold M.lp at hs hlp
    by_cases h1 : M.leap (M.civY a) = true
    · rw [if_pos h1] at hl hs; rw [if_pos h1]; split <;> omega
    · rw [if_neg h1] at hl hs; rw [if_neg h1]; split <;> omega
  · unfold leaps ly
    rw [hy]; split <;> omega
  · have := M.before_le (a := M.civY b + 1) (b := M.civY a) (by omega)
    omega
theorem ahead_mono {kind we : Int} {l : List S63} {a b : Int} (ha : 0 ≤ a ∧ a ≤ 109572) (hb : 0 ≤ b ∧ b ≤ 109572) (h : a ≤ b) : ahead kind we l a ≤ ahead kind we l b := by
  unfold ahead act
  split
  · have := leaps_le ha hb h; omega
  · split
    · have h1 := cntAdd we (l.map H.ru) (b - a).toNat a.toNat 0
      have h2 := cntRng we (l.map H.ru) (b - a).toNat (0 + (a.toNat : Int))
      rw [show a.toNat + (b - a).toNat = b.toNat by omega] at h1
      omega
    · exact h
/-- The upper number of a fraction, days turned or not. -/
noncomputable def num (kind we : Int) (l : List S63) (a b : Int) : Int := if kind = 4 ∨ kind = 5 then (if b < a then -(thP (decide (kind = 5)) b a) else thP (decide (kind = 5)) a b) else ahead kind we l b - ahead kind we l a
def den2 (kind : Int) : Int := if kind = 4 ∨ kind = 5 then 360 else den kind
theorem den2_rng (kind : Int) : 0 < den2 kind ∧ den2 kind < 1048576 := by unfold den2 den; (repeat' split) <;> decide
theorem num_rng (kind we : Int) (l : List S63) {a b : Int} (ha : 0 ≤ a ∧ a ≤ 109572) (hb : 0 ≤ b ∧ b ≤ 109572) : -1099511627776 < num kind we l a b ∧ num kind we l a b < 1099511627776 := by
  have r1 := ahead_rng kind we l ha
  have r2 := ahead_rng kind we l hb
  have r3 := thP_rng (decide (kind = 5)) ha hb
  have r4 := thP_rng (decide (kind = 5)) hb ha
  unfold num
  split
  · split <;> omega
  · omega
theorem num_turn (kind we : Int) (l : List S63) {a b : Int} (ha : 0 ≤ a ∧ a ≤ 109572) (hb : 0 ≤ b ∧ b ≤ 109572) : num kind we l b a = -num kind we l a b := by
  unfold num
  split
  · rcases Int.lt_trichotomy a b with h | h | h
    · rw [if_pos h, if_neg (by omega)]
    · subst h; rw [if_neg (by omega), thP_self _ ha]; rfl
    · rw [if_neg (by omega), if_pos h]; omega
  · omega
theorem num_self (kind we : Int) (l : List S63) {a : Int} (ha : 0 ≤ a ∧ a ≤ 109572) : num kind we l a a = 0 := by
  have := num_turn kind we l ha ha; omega
theorem num_rise (kind we : Int) (l : List S63) {a b c : Int} (ha : 0 ≤ a ∧ a ≤ 109572) (hb : 0 ≤ b ∧ b ≤ 109572) (hc : 0 ≤ c ∧ c ≤ 109572) (h : b ≤ c) : num kind we l a b ≤ num kind we l a c := by
  unfold num
  split
  · have s1 := thP_self (decide (kind = 5)) ha
    by_cases h1 : b < a
    · rw [if_pos h1]
      by_cases h2 : c < a
      · rw [if_pos h2]; have := thP_fall (decide (kind = 5)) ha hb hc h; omega
      · rw [if_neg h2]
        have h3 := thP_rise (decide (kind = 5)) ha ha hc (by omega)
        have h4 := thP_fall (decide (kind = 5)) ha hb ha (by omega)
        omega
    · rw [if_neg h1, if_neg (by omega)]; exact thP_rise _ ha hb hc h
  · have := ahead_mono (kind := kind) (we := we) (l := l) hb hc h; omega
/-- A fraction, where nothing is wrong. -/
theorem frac_num {kind we : Int} {l : List S63} {a b : Int} (h : (frac kind we l a b).2.2 = 0) : frac kind we l a b = (num kind we l a b, den2 kind, 0) ∧ (0 ≤ a ∧ a ≤ 109572) ∧ (0 ≤ b ∧ b ≤ 109572) := by
  by_cases h45 : kind = 4 ∨ kind = 5
  · unfold frac at h ⊢
    rw [if_neg (by omega), if_neg (by omega)] at h ⊢
    by_cases hd : (0 ≤ a ∧ a ≤ 109572) ∧ (0 ≤ b ∧ b ≤ 109572)
    · rw [if_neg (fun h => h hd)]
      refine ⟨?_, hd.1, hd.2⟩
      have hu : ∀ x y : Int, (0 ≤ x ∧ x ≤ 109572) → (0 ≤ y ∧ y ≤ 109572) → up kind we l x y = (thP (decide (kind = 5)) x y, 360, 0) := by
        intro x y hx hy
        unfold up
        rw [if_neg (by omega), if_neg (by omega), if_neg (by omega)]
        rcases h45 with h4 | h5
        · rw [if_pos h4, decide_eq_false (by omega), thirty_eq false hx hy]
        · rw [if_neg (by omega), if_pos h5, decide_eq_true h5, thirty_eq true hx hy]
      unfold num den2
      rw [if_pos h45, if_pos h45]
      by_cases hlt : b < a
      · rw [if_pos hlt, if_pos hlt, hu b a hd.2 hd.1]
        have := thP_rng (decide (kind = 5)) hd.2 hd.1
        simp only
        rw [w64 (by omega) (by omega)]
      · rw [if_neg hlt, if_neg hlt, hu a b hd.1 hd.2]
    · rw [if_pos hd] at h; exact absurd (show (51 : Int) = 0 from h) (by decide)
  · obtain ⟨h1, h2, h3⟩ := frac_ok (show ¬ kind = 4 ∧ ¬ kind = 5 by omega) h
    refine ⟨?_, h2, h3⟩
    unfold num den2
    rw [if_neg h45, if_neg h45]; exact h1
/-- What is wrong does not hang on the days' order. -/
theorem frac_err (kind we : Int) (l : List S63) {a b : Int} (h : ¬ (frac kind we l a b).2.2 = 0) : frac kind we l b a = frac kind we l a b ∧ frac kind we l a b = (0, 0, (frac kind we l a b).2.2) := by
  by_cases hk : kind < 1 ∨ 6 < kind
  · unfold frac; rw [if_pos hk, if_pos hk]; exact ⟨rfl, rfl⟩
  · by_cases hc : kind = 6 ∧ ¬ (M.chk we (l.map H.ru)).1 = 0
    · unfold frac; rw [if_neg hk, if_pos hc, if_neg hk, if_pos hc]; exact ⟨rfl, rfl⟩
    · by_cases hd : (0 ≤ a ∧ a ≤ 109572) ∧ (0 ≤ b ∧ b ≤ 109572)
      · exfalso
        apply h
        have hz : ∀ x y, (0 ≤ x ∧ x ≤ 109572) → (0 ≤ y ∧ y ≤ 109572) → ¬ y < x → (up kind we l x y).2.2 = 0 := by
          intro x y hx hy hxy
          unfold up
          repeat' split
          all_goals first | rfl | skip
          unfold M.Count
          rw [if_pos (Classical.byContradiction (fun hn => hc ⟨by omega, hn⟩)), if_pos ⟨hx, hy⟩, if_neg hxy]
        unfold frac
        rw [if_neg hk, if_neg hc, if_neg (fun g => g hd)]
        split
        · exact hz b a hd.2 hd.1 (by omega)
        · exact hz a b hd.1 hd.2 (by omega)
      · unfold frac
        rw [if_neg hk, if_neg hc, if_pos hd, if_neg hk, if_neg hc, if_pos (fun g => hd ⟨g.2, g.1⟩)]; exact ⟨rfl, rfl⟩
theorem frac_self {kind we : Int} {l : List S63} {a b : Int} (h : (frac kind we l a b).2.2 = 0) : (frac kind we l a a).2.2 = 0 := by
  refine Classical.byContradiction (fun hn => ?_)
  obtain ⟨_, ha, _⟩ := frac_num h
  have hd : (0 ≤ a ∧ a ≤ 109572) ∧ (0 ≤ a ∧ a ≤ 109572) := ⟨ha, ha⟩
  by_cases hk : kind < 1 ∨ 6 < kind
  · unfold frac at h; rw [if_pos hk] at h; exact absurd (show (70 : Int) = 0 from h) (by decide)
  · by_cases hc : kind = 6 ∧ ¬ (M.chk we (l.map H.ru)).1 = 0
    · unfold frac at h; rw [if_neg hk, if_pos hc] at h; exact absurd h hc.2
    · apply hn
      unfold frac
      rw [if_neg hk, if_neg hc, if_neg (fun g => g hd), if_neg (show ¬ a < a by omega)]
      unfold up
      repeat' split
      all_goals first | rfl | skip
      unfold M.Count
      rw [if_pos (Classical.byContradiction (fun hm => hc ⟨by omega, hm⟩)), if_pos (show M.isDay a ∧ M.isDay a from hd), if_neg (show ¬ a < a by omega)]
theorem cYear_ok {kind we : Int} {l : List S63} {a b : Int} (hw : wfL l) (h : (frac kind we l a b).2.2 = 0) {v : Nat} (hv : quo64 (num kind we l a b) (den2 kind) = some v) : Ev (fun k => count_Year.f k kind we l a b) (v, 0) := by
  refine Ev.congr (fun k => by unfold count_Year.f; rfl) (Ev.bind (cFrac kind we l a b hw) ?_)
  rw [(frac_num h).1]
  exact Ev.congr (fun k => by rw [if_pos rfl, hv, Option.bind_some]) (Ev.now _)
theorem cYear_err {kind we : Int} {l : List S63} {a b : Int} (hw : wfL l) (h : ¬ (frac kind we l a b).2.2 = 0) : Ev (fun k => count_Year.f k kind we l a b) (0, (frac kind we l a b).2.2) := by
  refine Ev.congr (fun k => by unfold count_Year.f; rfl) (Ev.bind (cFrac kind we l a b hw) ?_)
  exact Ev.congr (fun k => if_neg h) (Ev.now _)
end Go.Proofs.Ytoncignjcgjhhaa.N
