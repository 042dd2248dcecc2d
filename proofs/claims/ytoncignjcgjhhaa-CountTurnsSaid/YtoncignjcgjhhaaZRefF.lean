/- What the document's own calendar calls come to: the plain arithmetic. No condition but on the number of days to be added. -/
import Derived.Test.YtoncignjcgjhhaaZGM
import Derived.Test.YtoncignjcgjhhaaZGE
set_option linter.unusedVariables false
set_option linter.unusedSimpArgs false
namespace Go.Proofs.Ytoncignjcgjhhaa.R
open Go.RowKit Go.Proofs.YtoncignjcgjhhaaW.PrintWords Go.Proofs.YtoncignjcgjhhaaW.PrintLast Go.Proofs.YtoncignjcgjhhaaW.PrintMore
open Go.Proofs.Ytoncignjcgjhhaa.Q
open Go.Proofs.Ytoncignjcgjhhaa.L (w64 td tm tm0)

theorem Count_l0 {we : Int} {l : List S63} (h : (M.chk we (l.map H.ru)).1 = 0) (z : Int) (hz : z ≤ 109572) : ∀ (f : Nat) (i s : Int), 0 ≤ i → i ≤ z → z - i = f → 0 ≤ s → s ≤ i →
    Ev (fun k => tenorref6_Count.l0 k z s i we l) (s + M.cntF we (l.map H.ru) f i, 0)
  | 0, i, s, a, b, c, d, e => by
    have c1 : ¬ i < z := by omega
    exact Ev.step (f := fun _ => some (s + M.cntF we (l.map H.ru) 0 i, (0 : Int))) (fun k => by rw [tenorref6_Count.l0, if_neg c1]; simp [M.cntF]) (Ev.now _)
  | f + 1, i, s, a, b, c, d, e => by
    have c1 : i < z := by omega
    have hw : wrap64 (i + 1) = i + 1 := w64 (by omega) (by omega)
    have hw2 : wrap64 (s + 1) = s + 1 := w64 (by omega) (by omega)
    refine Ev.step (fun k => by rw [tenorref6_Count.l0, if_pos c1, hw, hw2]) (Ev.bind (open_ h i ⟨by omega, by omega⟩) ?_)
    unfold M.cntF
    by_cases ho : M.isOpen we (l.map H.ru) i = true
    · rw [if_pos ho, ← Int.add_assoc]
      exact Ev.congr (fun k => if_pos ho) (Count_l0 h z hz f (i + 1) (s + 1) (by omega) (by omega) (by omega) (by omega) (by omega))
    · rw [if_neg ho, Int.zero_add]
      exact Ev.congr (fun k => if_neg ho) (Count_l0 h z hz f (i + 1) s (by omega) (by omega) (by omega) (by omega) (by omega))

theorem cntF_rng (we : Int) (l : List M.Rul) : ∀ (f : Nat) (i : Int), 0 ≤ M.cntF we l f i ∧ M.cntF we l f i ≤ f
  | 0, i => by simp [M.cntF]
  | f + 1, i => by
    have := cntF_rng we l f (i + 1)
    unfold M.cntF
    split <;> (push_cast; omega)

theorem Count_up {we : Int} {l : List S63} (h : (M.chk we (l.map H.ru)).1 = 0) (a z : Int) (ha : M.isDay a) (hz : M.isDay z) (hle : ¬ z < a) : Ev (fun k => tenorref6_Count.f k we l a z) (M.cntF we (l.map H.ru) (z - a).toNat a, 0) := by
  have a0 := ha.1; have a1 := ha.2; have z0 := hz.1; have z1 := hz.2
  refine Ev.step (fun k => by rw [tenorref6_Count.f]) (Ev.bind (Check we l) ?_)
  refine Ev.congr (fun k => by rw [if_pos h, isDay, isDay, decide_eq_true ha, decide_eq_true hz]; rfl) (Ev.step (g := fun k => tenorref6_Count.j0 k a z false we l) (fun k => by rw [tenorref6_Count.j0, if_neg (by decide), if_neg hle]) ?_)
  have := Count_l0 h z z1 (z - a).toNat a 0 a0 (by omega) (by omega) (by omega) (by omega)
  rw [Int.zero_add] at this
  exact this

theorem Count (we : Int) (l : List S63) (a z : Int) : Ev (fun k => tenorref6_Count.f k we l a z) (M.Count we (l.map H.ru) a z) := by
  unfold M.Count
  by_cases hc : (M.chk we (l.map H.ru)).1 = 0
  · rw [if_pos hc]
    by_cases hd : M.isDay a ∧ M.isDay z
    · rw [if_pos hd]
      obtain ⟨ha, hz⟩ := hd
      have a0 := ha.1; have a1 := ha.2; have z0 := hz.1; have z1 := hz.2
      by_cases hlt : z < a
      · rw [if_pos hlt]
        refine Ev.step (fun k => by rw [tenorref6_Count.f]) (Ev.bind (Check we l) ?_)
        refine Ev.congr (fun k => by rw [if_pos hc, isDay, isDay, decide_eq_true ha, decide_eq_true hz]; rfl) (Ev.step (g := fun k => tenorref6_Count.j0 k a z false we l) (fun k => by rw [tenorref6_Count.j0, if_neg (by decide), if_pos hlt]) ?_)
        have hr := cntF_rng we (l.map H.ru) (a - z).toNat z
        refine Ev.bind (Count_up hc z a hz ha (by omega)) (Ev.congr (f := fun _ => some (-(M.cntF we (l.map H.ru) (a - z).toNat z), (0 : Int))) (fun k => ?_) (Ev.now _))
        simp only
        rw [w64 (by omega) (by omega)]
      · rw [if_neg hlt]; exact Count_up hc a z ha hz hlt
    · rw [if_neg hd]
      refine Ev.step (fun k => by rw [tenorref6_Count.f]) (Ev.bind (Check we l) ?_)
      have hj : ∀ b, b = true → Ev (fun k => tenorref6_Count.j0 k a z b we l) ((0 : Int), (51 : Int)) := fun b hb => Ev.step (f := fun _ => some ((0 : Int), (51 : Int))) (fun k => by rw [tenorref6_Count.j0, if_pos hb]) (Ev.now _)
      by_cases ha : M.isDay a
      · have hz : ¬ M.isDay z := fun e => hd ⟨ha, e⟩
        exact Ev.congr (fun k => by rw [if_pos hc, isDay, isDay, decide_eq_true ha, decide_eq_false hz]; rfl) (hj true rfl)
      · exact Ev.congr (fun k => by rw [if_pos hc, isDay, decide_eq_false ha]; rfl) (hj true rfl)
  · rw [if_neg hc]
    exact Ev.step (fun k => by rw [tenorref6_Count.f]) (Ev.bind (Check we l) (Ev.congr (fun k => by rw [if_neg hc]) (Ev.now _)))
end Go.Proofs.Ytoncignjcgjhhaa.R
