/- The statement of joining: what is told is what the document tells, and shares nothing. Condition: the rules' numbers are of 64 bits. -/
import Derived.Test.YtoncignjcgjhhaaZJJoin
import Derived.Test.YtoncignjcgjhhaaZJQx62
import Derived.Test.YtoncignjcgjhhaaZJ
set_option linter.unusedVariables false
set_option linter.unusedSimpArgs false
namespace Go.Proofs.Ytoncignjcgjhhaa.R
open Go.RowKit Go.Proofs.YtoncignjcgjhhaaW.PrintWords Go.Proofs.YtoncignjcgjhhaaW.PrintLast Go.Proofs.YtoncignjcgjhhaaW.PrintMore
open Go.Proofs.Ytoncignjcgjhhaa.Q
open Go.Proofs.Ytoncignjcgjhhaa.L (w64 td tm tm0)

theorem CalJoins_l0 {a c : Int} {l m : List S63} (hl : wfL l) (hm : wfL m) (x0 : Int) : ∀ (f i : Nat) (xs : List S63), xs.length - i = f → xs.length ≤ 1000 →
    Ev (fun k => tenorlaw6_CalJoins.l0 k (i : Int) a l c m x0 xs (J a l c m).1 (J a l c m).2.1 (J a l c m).1 (J a l c m).2.1) true
  | 0, i, xs, hf, hx => by
    have c1 : ¬ (i : Int) < (xs.length : Int) := by omega
    refine Ev.step (fun k => by rw [tenorlaw6_CalJoins.l0, if_neg c1]) (Ev.bind (cJoin hl hm) ?_)
    refine Ev.bind (Same _ _ (J_len a c l m)) ?_
    refine Ev.congr (fun k => if_pos rfl) (Ev.bind (Same _ _ (J_len a c l m)) ?_)
    exact Ev.congr (fun k => by rw [if_pos rfl, awake6b]) (Ev.now _)
  | f + 1, i, xs, hf, hx => by
    have c1 : (i : Int) < (xs.length : Int) := by omega
    have c2 : (0 : Int) ≤ (i : Int) := by omega
    have hw : wrap64 ((i : Int) + 1) = ((i + 1 : Nat) : Int) := by rw [w64 (by omega) (by omega)]; push_cast; rfl
    refine Ev.step (fun k => by rw [tenorlaw6_CalJoins.l0, if_pos c1, if_pos c2, hw]) (CalJoins_l0 hl hm x0 f (i + 1) _ (by rw [List.length_set]; omega) (by rw [List.length_set]; omega))

theorem CalJoins_j0t (a c : Int) (l m : List S63) : Ev (fun k => tenorlaw6_CalJoins.j0 k true a l c m) true :=
  Ev.step (f := fun _ => some true) (fun k => by rw [tenorlaw6_CalJoins.j0, if_pos rfl, awake6b]) (Ev.now _)
theorem CalJoins_j0f {a c : Int} {l m : List S63} (hl : wfL l) (hm : wfL m) : Ev (fun k => tenorlaw6_CalJoins.j0 k false a l c m) true := by
  have hs : ∀ k, tenorlaw6_CalJoins.j0 (k + 1) false a l c m = _ := fun k => by rw [tenorlaw6_CalJoins.j0, if_neg (by decide)]
  refine Ev.step hs ?_
  clear hs
  refine Ev.bind (cJoin hl hm) (Ev.bind (cJoin hl hm) (Ev.bind (rJoin a c l m) ?_))
  refine Ev.congr (fun k => if_pos rfl) (Ev.bind (Same _ _ (J_len a c l m)) ?_)
  refine Ev.congr (fun k => if_pos rfl) (Ev.bind (Same _ _ (J_len a c l m)) ?_)
  have hl0 := CalJoins_l0 (a := a) (c := c) hl hm (J a l c m).1 (J a l c m).2.1.length 0 (J a l c m).2.1 (by omega) (J_len a c l m)
  exact Ev.step (fun k => by rw [tenorlaw6_CalJoins.j1, if_neg (by decide)]; rfl) hl0

theorem CalJoins (a : Int) (l : List S63) (c : Int) (m : List S63) (hl : wfL l) (hm : wfL m) : Ev (fun k => tenorlaw6_CalJoins.f k a l c m) true := by
  by_cases h : (l.length : Int) > 100
  · exact Ev.congr (fun k => by unfold tenorlaw6_CalJoins.f; rw [if_pos h]) (CalJoins_j0t a c l m)
  · refine Ev.congr (fun k => by unfold tenorlaw6_CalJoins.f; rw [if_neg h]) ?_
    by_cases h2 : (m.length : Int) > 100
    · exact Ev.congr (fun k => by rw [decide_eq_true h2]) (CalJoins_j0t a c l m)
    · exact Ev.congr (fun k => by rw [decide_eq_false h2]) (CalJoins_j0f hl hm)
end Go.Proofs.Ytoncignjcgjhhaa.R
