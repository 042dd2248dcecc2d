/- The statement of what is wrong with a calendar: all calls answer it. Condition: the numbers are of 64 bits. -/
import Derived.Test.YtoncignjcgjhhaaZKJoin
import Derived.Test.YtoncignjcgjhhaaZKQCalChecks
import Derived.Test.YtoncignjcgjhhaaZK
set_option linter.unusedVariables false
set_option linter.unusedSimpArgs false
namespace Go.Proofs.Ytoncignjcgjhhaa.R
open Go.RowKit Go.Proofs.YtoncignjcgjhhaaW.PrintWords Go.Proofs.YtoncignjcgjhhaaW.PrintLast Go.Proofs.YtoncignjcgjhhaaW.PrintMore
open Go.Proofs.Ytoncignjcgjhhaa.Q
open Go.Proofs.Ytoncignjcgjhhaa.L (w64 td tm tm0)

theorem J_first {a : Int} {l : List S63} (h : ck a l ≠ 0) : J a l 0 [] = (0, [], ck a l) := by unfold J; rw [if_neg h]
theorem J_second {a : Int} {l : List S63} (h : ck a l ≠ 0) : J 0 [] a l = (0, [], ck a l) := by
  have e : ck 0 [] = 0 := by decide
  unfold J; rw [if_pos e, if_neg h]

theorem CalChecks (we : Int) (l : List S63) (n k : Int) (hw : wfL l) (hk : L.i64 k) : Ev (fun q => tenorlaw6_CalChecks.f q we l n k) true := by
  by_cases h : (l.length : Int) > 100
  · exact Ev.congr (fun q => by unfold tenorlaw6_CalChecks.f; rw [if_pos h, awake6b]) (Ev.now _)
  · refine Ev.congr (fun q => by unfold tenorlaw6_CalChecks.f; rw [if_neg h, cCheck hw, Option.bind_some]) (Ev.bind (Check we l) ?_)
    refine Ev.congr (fun q => if_pos rfl) ?_
    have e : ((M.chk we (l.map H.ru)).2 != (M.chk we (l.map H.ru)).2) = false := bne_self_eq_false _
    rw [e]
    by_cases hc : (M.chk we (l.map H.ru)).1 = 0
    · exact Ev.step (f := fun _ => some true) (fun q => by rw [tenorlaw6_CalChecks.j0, if_neg (by decide), if_pos hc, awake6b]) (Ev.now _)
    · have e1 : M.Open we (l.map H.ru) n = (false, (M.chk we (l.map H.ru)).1) := by unfold M.Open; rw [if_neg hc]
      have e2 : M.Holiday we (l.map H.ru) n = (false, (M.chk we (l.map H.ru)).1) := by unfold M.Holiday; rw [if_neg hc]
      have e3 : M.Adjust we (l.map H.ru) n k = (0, (M.chk we (l.map H.ru)).1) := by unfold M.Adjust; rw [if_neg hc]
      have e4 : M.Add we (l.map H.ru) n k = (0, (M.chk we (l.map H.ru)).1) := by unfold M.Add; rw [if_neg hc]
      have e5 : M.Count we (l.map H.ru) n k = (0, (M.chk we (l.map H.ru)).1) := by unfold M.Count; rw [if_neg hc]
      have hn : wfL ([] : List S63) := wfL_of (by simp)
      have hs : ∀ q, tenorlaw6_CalChecks.j0 (q + 1) n k (M.chk we (l.map H.ru)).1 (M.chk we (l.map H.ru)).1 false we l = _ := fun q => by
        rw [tenorlaw6_CalChecks.j0, if_neg (by decide), if_neg hc, cOpen hw, cHoliday hw, cAdjust hw, cAdd hw _ _ _ hk, cCount hw, e1, e2, e3, e4, e5, Option.bind_some, Option.bind_some, Option.bind_some, Option.bind_some, Option.bind_some]
      refine Ev.step hs ?_
      clear hs
      have j1 := cJoin (a := we) (c := 0) hw hn
      have j2 := cJoin (a := 0) (c := we) hn hw
      rw [J_first hc] at j1
      rw [J_second hc] at j2
      refine Ev.bind j1 (Ev.bind j2 ?_)
      have hS := Same 0 [] (by simp)
      have htail : Ev (fun q => (tenorref6_Same.f q 0 [] 0 []).bind fun t636 => (if t636 = true then ((tenorref6_Same.f q 0 [] 0 []).bind fun t637 => (if t637 = true then ((tenorlaw6_awake.f).bind fun t638 => (some t638)) else (some false))) else (some false))) true := by
        refine Ev.bind hS ?_
        refine Ev.congr (fun q => if_pos rfl) ?_
        refine Ev.bind hS ?_
        exact Ev.congr (fun q => by rw [if_pos rfl, awake6b]) (Ev.now _)
      refine Ev.congr (fun q => ?_) htail
      have hck : ck we l = (M.chk we (l.map H.ru)).1 := rfl
      have hff : ¬ ((false : Bool) = true) := by decide
      dsimp only
      rw [hck, if_neg hff, if_neg hff]
      repeat rw [if_pos rfl]
end Go.Proofs.Ytoncignjcgjhhaa.R
