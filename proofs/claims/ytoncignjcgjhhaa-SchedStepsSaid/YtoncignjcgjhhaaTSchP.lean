/- A schedule's point as it is asked for, in the program and in the document. Condition: the rules' numbers are of 64 bits. -/
import Derived.Test.YtoncignjcgjhhaaTGG
import Derived.Test.YtoncignjcgjhhaaTQx83
set_option linter.unusedVariables false
set_option linter.unusedSimpArgs false
namespace Go.Proofs.Ytoncignjcgjhhaa.S
open Go.RowKit Go.Proofs.YtoncignjcgjhhaaW.PrintWords Go.Proofs.YtoncignjcgjhhaaW.PrintLast Go.Proofs.YtoncignjcgjhhaaW.PrintMore
open Go.Proofs.Ytoncignjcgjhhaa.Q
open Go.Proofs.Ytoncignjcgjhhaa.L (w64 td tm tm0)
theorem chk_fit0 {s : Sp} (h : s.chk = 0) : s.days ∧ s.fit := by
 by_cases h1 : s.days
 ·
  by_cases h2 : s.fit
  ·
   exact ⟨h1, h2⟩
  ·
   rw [chk_unfit h1 h2] at h; exact absurd h (by decide)
 ·
  rw [chk_days h1] at h; exact absurd h (by decide)
noncomputable def Sp.point (s : Sp) (x k : Int) : Int × Bool := if s.chk = 0 then told (if 0 ≤ x ∧ x ≤ 109572 then s.pt x k else none) else (0, false)
theorem sPointF (s : Sp) (x k : Int) (hw : wfL s.l) : Ev (fun q => sched_Point.f q s.a s.b s.n s.u s.st s.ro s.cv s.lag s.we s.l x k) (s.point x k) := by
 have ht : Ev (fun q => sched_Point.j0 q x k true s.a s.b s.n s.u s.st s.ro s.cv s.lag s.we s.l) ((0, false) : Int × Bool) :=
  Ev.step (f := fun _ => some ((0, false) : Int × Bool)) (fun q => by rw [sched_Point.j0, if_pos rfl]) (Ev.now _)
 refine Ev.congr (fun q => by unfold sched_Point.f; rfl) (Ev.bind (sCheck s hw) ?_)
 unfold Sp.point
 by_cases hc : s.chk = 0
 ·
  rw [if_pos hc]
  refine Ev.congr (fun q => by rw [if_pos hc, sis, Option.bind_some]) ?_
  by_cases hx : 0 ≤ x ∧ x ≤ 109572
  ·
   rw [if_pos hx]
   refine Ev.congr (fun q => by rw [decide_eq_true hx, Bool.not_true]) (Ev.step (f := fun q => (sched_point.f q s.a s.b s.n s.u s.st s.ro s.cv s.lag s.we s.l x k).bind fun bt996 => (if bt996.2 = true then (some (bt996.1, true)) else (some (0, false)))) (fun q => by rw [sched_Point.j0, if_neg (by decide)]) ?_)
   obtain ⟨p, hp, htl⟩ := sPoint s x k hx (chk_fit0 hc).2
   refine Ev.bind hp (Ev.congr (fun q => ?_) (Ev.now _))
   cases ho : s.pt x k with
   | none => rw [ho] at htl; have h2 : p.2 = false := htl; rw [if_neg (by rw [h2]; decide)]; rfl
   | some v => rw [ho] at htl; have h2 : p = (v, true) := htl; rw [h2, if_pos rfl]; rfl
  ·
   rw [if_neg hx]
   exact Ev.congr (fun q => by rw [decide_eq_false hx]; rfl) ht
 ·
  rw [if_neg hc]
  exact Ev.congr (fun q => if_neg hc) ht
end Go.Proofs.Ytoncignjcgjhhaa.S
