/- The statement that fractions add up. Condition: the rules' numbers are of 64 bits. -/
import Derived.Test.YtoncignjcgjhhaaZNCountC
import Derived.Test.YtoncignjcgjhhaaZNAwake7
import Derived.Test.YtoncignjcgjhhaaZNQx31
import Derived.Test.YtoncignjcgjhhaaZN
set_option linter.unusedVariables false
set_option linter.unusedSimpArgs false
namespace Go.Proofs.Ytoncignjcgjhhaa.N
open Go.RowKit Go.Proofs.YtoncignjcgjhhaaW.PrintWords Go.Proofs.YtoncignjcgjhhaaW.PrintLast Go.Proofs.YtoncignjcgjhhaaW.PrintMore
open Go.Proofs.Ytoncignjcgjhhaa.Q
open Go.Proofs.Ytoncignjcgjhhaa.L (w64 td tm tm0)
theorem short_tells (kind we : Int) (l : List S63) (a b : Int) : ∃ t, tenorlaw7_short.f kind we l a b = some t := by
  unfold tenorlaw7_short.f
  repeat' split
  all_goals exact ⟨_, rfl⟩
theorem CountAdds (kind we : Int) (l : List S63) (x y z : Int) (hw : wfL l) : Ev (fun k => tenorlaw7_CountAdds.f k kind we l x y z) true := by
  have haw : ∀ k : Nat, (tenorlaw7_awake.f).bind (fun t => some t) = some true := fun _ => rfl
  have hj1 : ∀ a p b q d r : Int, Ev (fun k => tenorlaw7_CountAdds.j1 k a p b q d r true) true := fun a p b q d r =>
    Ev.step (fun k => by rw [tenorlaw7_CountAdds.j1, if_pos rfl, haw k]) (Ev.now _)
  have ht : Ev (fun k => tenorlaw7_CountAdds.j0 k kind x y z true we l) true := Ev.step (fun k => by rw [tenorlaw7_CountAdds.j0, if_pos rfl, haw k]) (Ev.now _)
  have hj : ∀ t, (¬ kind = 4 ∧ ¬ kind = 5) → Ev (fun k => tenorlaw7_CountAdds.j0 k kind x y z t we l) true := by
    intro t h45
    refine Ev.step (fun k => by rw [tenorlaw7_CountAdds.j0]) (ev_ite (fun _ => Ev.congr haw (Ev.now _)) (fun _ => ?_))
    refine Ev.bind (cFrac kind we l x y hw) (Ev.bind (cFrac kind we l y z hw) (Ev.bind (cFrac kind we l x z hw) ?_))
    refine ev_ite (fun e1 => ev_ite (fun e2 => ?_) (fun _ => hj1 _ _ _ _ _ _)) (fun _ => hj1 _ _ _ _ _ _)
    by_cases e3 : (frac kind we l x z).2.2 = 0
    · obtain ⟨f1, hx, hy⟩ := frac_ok h45 e1
      obtain ⟨f2, _, hz⟩ := frac_ok h45 e2
      obtain ⟨f3, _, _⟩ := frac_ok h45 e3
      have r1 := ahead_rng kind we l hx
      have r2 := ahead_rng kind we l hy
      have r3 := ahead_rng kind we l hz
      rw [f1, f2, f3]
      have hwr : wrap64 (ahead kind we l y - ahead kind we l x + (ahead kind we l z - ahead kind we l y)) = ahead kind we l z - ahead kind we l x := by rw [w64 (by omega) (by omega)]; omega
      have hp := den_pos kind
      refine Ev.step (f := fun _ => some true) (fun k => ?_) (Ev.now _)
      show tenorlaw7_CountAdds.j1 (k + 1) _ _ _ _ _ _ ((0 : Int) != 0) = _
      rw [show ((0 : Int) != 0) = false from rfl, tenorlaw7_CountAdds.j1, if_neg (by decide), if_pos hwr, if_pos rfl, if_pos rfl, if_pos hp, haw k]
    · exact Ev.congr (fun k => by rw [bne_iff_ne.2 e3]) (hj1 _ _ _ _ _ _)
  refine Ev.congr (fun k => by unfold tenorlaw7_CountAdds.f; rfl) (ev_ite (fun _ => ht) (fun k4 => ev_ite (fun _ => ht) (fun k5 => ?_)))
  obtain ⟨t1, h1⟩ := short_tells kind we l x y
  obtain ⟨t2, h2⟩ := short_tells kind we l y z
  obtain ⟨t3, h3⟩ := short_tells kind we l x z
  refine Ev.congr (fun k => by rw [h1, Option.bind_some]) (ev_ite (fun _ => ?_) (fun _ => hj _ ⟨k4, k5⟩))
  refine Ev.congr (fun k => by rw [h2, Option.bind_some]) (ev_ite (fun _ => ?_) (fun _ => hj _ ⟨k4, k5⟩))
  exact Ev.congr (fun k => by rw [h3, Option.bind_some]) (hj _ ⟨k4, k5⟩)
end Go.Proofs.Ytoncignjcgjhhaa.N
