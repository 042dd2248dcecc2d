/- The part of a year as a difference: what lies ahead of the two days. No condition. -/
import Derived.Test.YtoncignjcgjhhaaZOCountA
import Derived.Test.YtoncignjcgjhhaaZO
set_option linter.unusedVariables false
set_option linter.unusedSimpArgs false
namespace Go.Proofs.Ytoncignjcgjhhaa.N
open Go.RowKit Go.Proofs.YtoncignjcgjhhaaW.PrintWords Go.Proofs.YtoncignjcgjhhaaW.PrintLast Go.Proofs.YtoncignjcgjhhaaW.PrintMore
open Go.Proofs.Ytoncignjcgjhhaa.Q
open Go.Proofs.Ytoncignjcgjhhaa.L (w64 td tm tm0)
theorem cntAdd (we : Int) (l : List M.Rul) (g : Nat) : ∀ (f : Nat) (i : Int), M.cntF we l (f + g) i = M.cntF we l f i + M.cntF we l g (i + f)
  | 0, i => by rw [Nat.zero_add, M.cntF]; simp
  | f + 1, i => by
    rw [show f + 1 + g = (f + g) + 1 by omega, M.cntF, M.cntF, cntAdd we l g f (i + 1), show i + 1 + (f : Int) = i + ((f + 1 : Nat) : Int) by omega]
    omega
theorem cntRng (we : Int) (l : List M.Rul) : ∀ (f : Nat) (i : Int), 0 ≤ M.cntF we l f i ∧ M.cntF we l f i ≤ f
  | 0, i => by rw [M.cntF]; omega
  | f + 1, i => by
    rw [M.cntF]
    have := cntRng we l f (i + 1)
    split <;> (push_cast; omega)
/-- What lies ahead of a day. -/
def ahead (kind we : Int) (l : List S63) (n : Int) : Int := if kind = 3 then act n else if kind = 6 then M.cntF we (l.map H.ru) n.toNat 0 else n
def den (kind : Int) : Int := if kind = 1 then 360 else if kind = 2 then 365 else if kind = 3 then 133590 else 252
theorem ahead_rng (kind we : Int) (l : List S63) {n : Int} (h : 0 ≤ n ∧ n ≤ 109572) : -400000 ≤ ahead kind we l n ∧ ahead kind we l n ≤ 41000000 := by
  have h1 := leaps_rng h
  have h2 := cntRng we (l.map H.ru) n.toNat 0
  unfold ahead act
  split
  · omega
  · split <;> omega
theorem up_ahead {kind we : Int} {l : List S63} {a b : Int} (hk : 1 ≤ kind ∧ kind ≤ 6) (h45 : ¬ kind = 4 ∧ ¬ kind = 5) (hc : kind = 6 → (M.chk we (l.map H.ru)).1 = 0) (ha : 0 ≤ a ∧ a ≤ 109572) (hb : 0 ≤ b ∧ b ≤ 109572) (h : ¬ b < a) : up kind we l a b = (ahead kind we l b - ahead kind we l a, den kind, 0) := by
  unfold up ahead den
  by_cases k1 : kind = 1
  · rw [if_pos k1, if_neg (by omega), if_neg (by omega), if_neg (by omega), if_neg (by omega), if_pos k1]
  · rw [if_neg k1]
    by_cases k2 : kind = 2
    · rw [if_pos k2, if_neg (by omega), if_neg (by omega), if_neg (by omega), if_neg (by omega), if_neg k1, if_pos k2]
    · rw [if_neg k2]
      by_cases k3 : kind = 3
      · rw [if_pos k3, if_pos k3, if_pos k3, if_neg k1, if_neg k2, if_pos k3]
      · have k6 : kind = 6 := by omega
        rw [if_neg k3, if_neg h45.1, if_neg h45.2, if_neg k3, if_pos k6, if_neg k3, if_pos k6, if_neg k1, if_neg k2, if_neg k3]
        unfold M.Count
        rw [if_pos (hc k6), if_pos ⟨ha, hb⟩, if_neg h]
        have := cntAdd we (l.map H.ru) (b - a).toNat a.toNat 0
        rw [show a.toNat + (b - a).toNat = b.toNat by omega, show (0 : Int) + (a.toNat : Int) = a by omega] at this
        rw [this]
        congr 1
        omega
theorem frac_ok {kind we : Int} {l : List S63} {a b : Int} (h45 : ¬ kind = 4 ∧ ¬ kind = 5) (h : (frac kind we l a b).2.2 = 0) : frac kind we l a b = (ahead kind we l b - ahead kind we l a, den kind, 0) ∧ (0 ≤ a ∧ a ≤ 109572) ∧ (0 ≤ b ∧ b ≤ 109572) := by
  unfold frac at h ⊢
  by_cases hk : kind < 1 ∨ 6 < kind
  · rw [if_pos hk] at h; exact absurd h (by decide)
  · rw [if_neg hk] at h ⊢
    by_cases hc : kind = 6 ∧ ¬ (M.chk we (l.map H.ru)).1 = 0
    · rw [if_pos hc] at h; exact absurd h hc.2
    · rw [if_neg hc] at h ⊢
      have hc6 : kind = 6 → (M.chk we (l.map H.ru)).1 = 0 := fun h => Classical.byContradiction (fun hn => hc ⟨h, hn⟩)
      by_cases hd : (0 ≤ a ∧ a ≤ 109572) ∧ (0 ≤ b ∧ b ≤ 109572)
      · rw [if_neg (fun h => h hd)] at h ⊢
        refine ⟨?_, hd.1, hd.2⟩
        by_cases hlt : b < a
        · rw [if_pos hlt, up_ahead (by omega) h45 hc6 hd.2 hd.1 (by omega)]
          have r1 := ahead_rng kind we l hd.1
          have r2 := ahead_rng kind we l hd.2
          simp only
          rw [w64 (by omega) (by omega)]
          congr 1
          omega
        · rw [if_neg hlt, up_ahead (by omega) h45 hc6 hd.1 hd.2 hlt]
      · rw [if_pos hd] at h; exact absurd h (by decide)
theorem den_pos (kind : Int) : 0 < den kind := by unfold den; split <;> (try split) <;> (try split) <;> decide
end Go.Proofs.Ytoncignjcgjhhaa.N
