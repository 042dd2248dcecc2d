/- The next day's date: the same month, the next month or the next year; as the walk of the law of days there and back meets it. No condition. -/
import Derived.Test.YtoncignjcgjhhaaDoorZPureD0
import Derived.Test.YtoncignjcgjhhaaDoorZQx17
import Derived.Test.YtoncignjcgjhhaaDoorZU
set_option linter.unusedVariables false
set_option linter.unusedSimpArgs false
namespace Go.Proofs.YtoncignjcgjhhaaDoor.M
theorem mlen_12 (y : Int) : mlen y 12 = 31 := rfl
theorem civ_next {n : Int} (h0 : 0 ≤ n) (h1 : n + 1 ≤ 109572) :
  (civY (n + 1) = civY n ∧ civM (n + 1) = civM n ∧ civD (n + 1) = civD n + 1 ∧ civD n < mlen (civY n) (civM n)) ∨
  (civY (n + 1) = civY n ∧ civM (n + 1) = civM n + 1 ∧ civD (n + 1) = 1 ∧ civD n = mlen (civY n) (civM n)) ∨
  (civY (n + 1) = civY n + 1 ∧ civM (n + 1) = 1 ∧ civD (n + 1) = 1 ∧ civM n = 12 ∧ civD n = 31) := by
 obtain ⟨⟨a, b, c, d, e, f⟩, g⟩ := civ_spec n h0 (by omega)
 by_cases hl : civD n < mlen (civY n) (civM n)
 ·
  refine .inl ?_
  obtain ⟨p, q, r⟩ := civ_unique (n := n + 1) (y := civY n) (m := civM n) (d := civD n + 1) ⟨a, b, c, d, by omega, by omega⟩ (by unfold dayOf at g ⊢; omega)
  exact ⟨p, q, r, hl⟩
 ·
  have hd : civD n = mlen (civY n) (civM n) := by omega
  have hc := cum_succ (civY n) (civM n) c d
  by_cases hm : civM n = 12
  ·
   refine .inr (.inr ?_)
   have hs := before_succ (civY n)
   have h13 := cum_13 (civY n)
   have h12 := mlen_12 (civY n)
   have hb := before_2200
   have h1c := cum_1 (civY n + 1)
   rw [hm] at hc hd g
   have hg : dayOf (civY n) 12 (civD n) = before (civY n) + cum (civY n) 12 + civD n - 1 := rfl
   have h13' : cum (civY n) (12 + 1) = 365 + lp (civY n) := h13
   have hlt : civY n + 1 ≤ 2199 := by
    apply Decidable.byContradiction
    intro hne
    have he : civY n + 1 = 2200 := by omega
    rw [he] at hs
    omega
   have ml := mlen_rng (civY n + 1) 1
   obtain ⟨p, q, r⟩ := civ_unique (n := n + 1) (y := civY n + 1) (m := 1) (d := 1) ⟨by omega, hlt, by omega, by omega, by omega, by omega⟩ (by unfold dayOf; omega)
   exact ⟨p, q, r, hm, by omega⟩
  ·
   refine .inr (.inl ?_)
   have ml := mlen_rng (civY n) (civM n + 1)
   obtain ⟨p, q, r⟩ := civ_unique (n := n + 1) (y := civY n) (m := civM n + 1) (d := 1) ⟨a, b, by omega, by omega, by omega, by omega⟩ (by unfold dayOf at g ⊢; omega)
   exact ⟨p, q, r, hd⟩
end Go.Proofs.YtoncignjcgjhhaaDoor.M
namespace Go.Proofs.YtoncignjcgjhhaaDoor.D
open Go.RowKit Go.Proofs.YtoncignjcgjhhaaDoorW.PrintWords Go.Proofs.YtoncignjcgjhhaaDoorW.PrintLast Go.Proofs.YtoncignjcgjhhaaDoorW.PrintMore
open Go.Proofs.YtoncignjcgjhhaaDoor.Q
open Go.Proofs.YtoncignjcgjhhaaDoor.L (w64 td tm tm0)
theorem isDay (n : Int) : tenorlaw5_isDay.f n = some (decide (0 ≤ n ∧ n ≤ 109572)) := by
 unfold tenorlaw5_isDay.f
 split
 ·
  congr 1; rw [decide_eq_decide]; omega
 ·
  congr 1; symm; rw [decide_eq_false_iff_not]; omega
theorem civil_is {n : Int} {k : Nat} {r : Int × Int × Int × Int} (hn : 0 ≤ n ∧ n ≤ 109572) (h : date_Civil.f k n = some r) : r = (M.civY n, M.civM n, M.civD n, 0) := by
 have hc := L.Civil n
 rw [if_pos hn] at hc
 obtain ⟨K, hK⟩ := hc
 have h2 := at_rounds (date_Civil.mono n) (Nat.le_max_left k K) h
 exact Option.some.inj (h2.symm.trans (hK _ (Nat.le_max_right k K)))
theorem back_case {k kj : Nat} {n y m d e a b c i s j : Int} (h0 : tenorlaw5_isDay.f n = some true) (h1 : date_Civil.f k n = some (y, m, d, e)) (h2 : date_Civil.f kj (wrap64 (n + 1)) = some (a, b, c, i))
  (h3 : date_Length.f y m = some (s, j)) (h4 : ¬ n = 109572) :
  (a = y ∧ b = m ∧ c = wrap64 (d + 1) ∧ ¬ b = wrap64 (m + 1) ∧ ¬ a = wrap64 (y + 1) ∧ d < s) ∨
  (a = y ∧ ¬ b = m ∧ b = wrap64 (m + 1) ∧ c = 1 ∧ ¬ a = wrap64 (y + 1) ∧ d = s) ∨
  (¬ a = y ∧ a = wrap64 (y + 1) ∧ b = 1 ∧ c = 1 ∧ m = 12 ∧ d = 31) := by
 rw [isDay] at h0
 have hn := of_decide_eq_true (Option.some.inj h0)
 have e1 := civil_is hn h1
 rw [w64 (by omega) (by omega)] at h2
 have e2 := civil_is (by omega) h2
 simp only [Prod.mk.injEq] at e1 e2
 obtain ⟨r1, r2, r3, r4⟩ := e1
 obtain ⟨s1, s2, s3, s4⟩ := e2
 obtain ⟨⟨p1, p2, p3, p4, p5, p6⟩, _⟩ := M.civ_spec n hn.1 hn.2
 have l := M.mlen_rng (M.civY n) (M.civM n)
 subst r1; subst r2; subst r3
 rw [L.Length, if_pos ⟨p1, p2, p3, p4⟩] at h3
 have e3 := Option.some.inj h3
 simp only [Prod.mk.injEq] at e3
 obtain ⟨t1, t2⟩ := e3
 subst t1
 rw [w64 (x := M.civD n + 1) (by omega) (by omega), w64 (x := M.civM n + 1) (by omega) (by omega), w64 (x := M.civY n + 1) (by omega) (by omega), s1, s2, s3]
 have h := M.civ_next hn.1 (by omega)
 rcases h with ⟨q1, q2, q3, q4⟩ | ⟨q1, q2, q3, q4⟩ | ⟨q1, q2, q3, q4, q5⟩
 ·
  exact .inl ⟨q1, q2, q3, by omega, by omega, q4⟩
 ·
  exact .inr (.inl ⟨q1, by omega, q2, q3, by omega, q4⟩)
 ·
  exact .inr (.inr ⟨by omega, q1, q2, q3, q4, q5⟩)
end Go.Proofs.YtoncignjcgjhhaaDoor.D
