/- What is wrong with a schedule, in the document. No condition. -/
import Derived.Test.YtoncignjcgjhhaaTGG
import Derived.Test.YtoncignjcgjhhaaTMonths
import Derived.Test.YtoncignjcgjhhaaTRefCa
import Derived.Test.YtoncignjcgjhhaaTQx72
import Derived.Test.YtoncignjcgjhhaaTQx75
set_option linter.unusedVariables false
set_option linter.unusedSimpArgs false
namespace Go.Proofs.Ytoncignjcgjhhaa.S
open Go.RowKit Go.Proofs.YtoncignjcgjhhaaW.PrintWords Go.Proofs.YtoncignjcgjhhaaW.PrintLast Go.Proofs.YtoncignjcgjhhaaW.PrintMore
open Go.Proofs.Ytoncignjcgjhhaa.Q
open Go.Proofs.Ytoncignjcgjhhaa.L (w64 td tm tm0)
theorem rin (a b c : Int) : tenorref8_in.f a b c = some (decide (b ≤ a ∧ a ≤ c)) := by
 unfold tenorref8_in.f
 by_cases h : a ≥ b
 ·
  rw [if_pos h]; simp [h]
 ·
  rw [if_neg h]; simp; omega
theorem rCheck (s : Sp) : Ev (fun k => tenorref8_Check.f k s.a s.b s.n s.u s.st s.ro s.cv s.lag s.we s.l) s.chk := by
 refine Ev.congr (fun k => by unfold tenorref8_Check.f; rw [rin, Option.bind_some, rin, Option.bind_some]) ?_
 have ht : ¬ s.days → Ev (fun k => tenorref8_Check.j0 k true s.a s.b s.n s.u s.st s.ro s.cv s.lag s.we s.l) s.chk := fun h => by
  rw [chk_days h]
  exact Ev.step (f := fun _ => some (51 : Int)) (fun k => by rw [tenorref8_Check.j0, if_pos rfl]) (Ev.now _)
 refine ev_dec (fun ha => ?_) (fun ha => ht (fun h => ha h.1))
 by_cases hb : 0 ≤ s.b ∧ s.b ≤ 109572
 ·
  have hd : s.days := ⟨ha, hb⟩
  have h80 : (¬ s.fit) → Ev (fun _ : Nat => some (80 : Int)) s.chk := fun h => by rw [chk_unfit hd h]; exact Ev.now _
  refine Ev.congr (fun k => by rw [decide_eq_true hb]) ?_
  refine Ev.step (fun k => by rw [Bool.not_true, tenorref8_Check.j0, if_neg (by decide), rin, rin, rin, rin, Option.bind_some, Option.bind_some, Option.bind_some, Option.bind_some]) ?_
  have hj1t : (¬ s.fit) → Ev (fun k => tenorref8_Check.j1 k true s.a s.b s.n s.u s.st s.ro s.cv s.lag s.we s.l) s.chk := fun h =>
   Ev.step (fun k => by rw [tenorref8_Check.j1, if_pos rfl]) (h80 h)
  refine ev_ite (fun c1 => hj1t (fun h => by have := h.1; omega)) (fun c1 => ?_)
  refine ev_dec (fun c2 => ?_) (fun c2 => hj1t (fun h => c2 h.2.1))
  refine ev_dec (fun c3 => ?_) (fun c3 => hj1t (fun h => c3 h.2.2.1))
  refine ev_dec (fun c4 => ?_) (fun c4 => hj1t (fun h => c4 h.2.2.2.1))
  by_cases c5 : 0 ≤ s.ro ∧ s.ro ≤ 2
  ·
   refine Ev.congr (fun k => by rw [decide_eq_true c5, Bool.not_true]) ?_
   refine Ev.step (fun k => by rw [tenorref8_Check.j1, if_neg (by decide), rin, rin, Option.bind_some, Option.bind_some]) ?_
   have hend : (s.ro = 0 ∨ 3 ≤ s.u) → Ev (fun k => if decide (0 ≤ s.cv ∧ s.cv ≤ 4) = true then if decide (0 ≤ s.lag ∧ s.lag ≤ 30) = true then (tenorref6_Check.f k s.we s.l).bind fun bt773 => some bt773.1 else some 80 else some 80) s.chk := fun c6 =>
    ev_dec (fun e1 => ev_dec (fun e2 => by
     rw [chk_fit hd ⟨by omega, c2, c3, c4, c5, c6, e1, e2⟩]
     exact Ev.bind (R.Check _ _) (Ev.now _)) (fun e2 => h80 (fun h => e2 h.2.2.2.2.2.2.2))) (fun e1 => h80 (fun h => e1 h.2.2.2.2.2.2.1))
   refine ev_ite (fun c6 => hend (.inl c6)) (fun c6 => ev_ite (fun c7 => h80 (fun h => ?_)) (fun c7 => hend (.inr (by omega))))
   have h6 := h.2.2.2.2.2.1; omega
  ·
   exact Ev.congr (fun k => by rw [decide_eq_false c5]; rfl) (hj1t (fun h => c5 h.2.2.2.2.1))
 ·
  exact Ev.congr (fun k => by rw [decide_eq_false hb]; rfl) (ht (fun h => hb h.2))
end Go.Proofs.Ytoncignjcgjhhaa.S
