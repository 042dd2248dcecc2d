/- The points of a schedule, in the document. Condition: the schedule is fit. -/
import Derived.Test.YtoncignjcgjhhaaTGG
import Derived.Test.YtoncignjcgjhhaaTSchA
set_option linter.unusedVariables false
set_option linter.unusedSimpArgs false
namespace Go.Proofs.Ytoncignjcgjhhaa.S
open Go.RowKit Go.Proofs.YtoncignjcgjhhaaW.PrintWords Go.Proofs.YtoncignjcgjhhaaW.PrintLast Go.Proofs.YtoncignjcgjhhaaW.PrintMore
open Go.Proofs.Ytoncignjcgjhhaa.Q
open Go.Proofs.Ytoncignjcgjhhaa.L (w64 td tm tm0)
theorem rpoint_j1 (s : Sp) (x m : Int) (hx : 0 ≤ x ∧ x ≤ 109572) (hro : 0 ≤ s.ro ∧ s.ro ≤ 2) : Ev (fun q => tenorref8_point.j1 q x m s.a s.b s.n s.u s.st s.ro s.cv s.lag s.we s.l) (told (if M.monthsOk x m then some (rolled s.ro x m) else none)) := by
 have hc := R.Civil x
 rw [if_pos hx] at hc
 refine Ev.step (fun q => by rw [tenorref8_point.j1]) (Ev.bind hc (Ev.bind (R.Month5 x m hx) ?_))
 unfold R.mon5
 by_cases h : M.monthsOk x m
 ·
  rw [if_pos h, if_pos h]
  have hrng := M.mAt_rng h
  refine Ev.congr (fun q => if_pos rfl) ?_
  unfold rolled
  by_cases r0 : s.ro = 0
  ·
   rw [if_pos r0]
   have hm := R.Months5 x m hx
   unfold M.months at hm
   rw [if_pos hx, if_pos h] at hm
   exact Ev.congr (fun q => if_pos r0) (Ev.bind hm (Ev.now _))
  ·
   rw [if_neg r0]
   refine Ev.congr (fun q => if_neg r0) ?_
   by_cases r1 : s.ro = 1
   ·
    rw [if_pos r1]
    have hl := R.Length (M.mAt x m / 12) (M.mAt x m % 12 + 1)
    rw [if_pos hrng] at hl
    have ho := R.Of (M.mAt x m / 12) (M.mAt x m % 12 + 1) (M.mlen (M.mAt x m / 12) (M.mAt x m % 12 + 1))
    rw [if_pos (mlenDate hrng)] at ho
    exact Ev.congr (fun q => if_pos r1) (Ev.bind hl (Ev.bind ho (Ev.now _)))
   ·
    rw [if_neg r1]
    exact Ev.congr (fun q => if_neg r1) (Ev.bind (R.Third5 _ _ hrng) (Ev.now _))
 ·
  rw [if_neg h, if_neg h]
  exact Ev.congr (fun q => if_neg (by decide)) (Ev.now _)
theorem told_day (n : Int) : Ev (fun _ : Nat => if decide (0 ≤ n ∧ n ≤ 109572) = true then some (n, true) else some (0, false)) (told (asDay n)) := by
 unfold asDay
 refine Ev.congr (fun q => ?_) (Ev.now _)
 by_cases h : 0 ≤ n ∧ n ≤ 109572
 ·
  rw [if_pos h, decide_eq_true h, if_pos rfl]; rfl
 ·
  rw [if_neg h, decide_eq_false h, if_neg (by decide)]; rfl
theorem rPoint (s : Sp) (x k : Int) (hf : s.fit) : Ev (fun q => tenorref8_point.f q s.a s.b s.n s.u s.st s.ro s.cv s.lag s.we s.l x k) (told (if 0 ≤ x ∧ x ≤ 109572 then s.pt x k else none)) := by
 obtain ⟨_, hn, hu, _, hro, _⟩ := hf
 have ht : Ev (fun q => tenorref8_point.j0 q x k true s.a s.b s.n s.u s.st s.ro s.cv s.lag s.we s.l) (told none) :=
  Ev.step (f := fun _ => some (told none)) (fun q => by rw [tenorref8_point.j0, if_pos rfl]; rfl) (Ev.now _)
 refine Ev.congr (fun q => by unfold tenorref8_point.f; rw [rin, Option.bind_some]) (ev_dec (fun hx => ?_) (fun hx => by rw [if_neg hx]; exact ht))
 rw [if_pos hx]
 unfold Sp.pt
 refine ev_ite (fun c1 => by rw [if_pos (.inl c1)]; exact ht) (fun c1 => ?_)
 by_cases c2 : k > 200000
 ·
  rw [if_pos (.inr c2)]
  exact Ev.congr (fun q => by rw [decide_eq_true c2]) ht
 ·
  rw [if_neg (show ¬ (k < -200000 ∨ 200000 < k) by omega)]
  have hm := mul_rng (c := 200000) (by omega) (show -200000 ≤ k by omega) (by omega) hn.1 hn.2
  have e1 : wrap64 (k * s.n) = k * s.n := w64 (by omega) (by omega)
  have e12 : wrap64 (12 * (k * s.n)) = 12 * (k * s.n) := w64 (by omega) (by omega)
  have e7a : wrap64 (7 * k) = 7 * k := w64 (by omega) (by omega)
  have e7 : wrap64 (7 * k * s.n) = 7 * (k * s.n) := by rw [Int.mul_assoc, w64 (by omega) (by omega)]
  have ex7 : wrap64 (x + 7 * (k * s.n)) = x + 7 * (k * s.n) := w64 (by omega) (by omega)
  have ex1 : wrap64 (x + k * s.n) = x + k * s.n := w64 (by omega) (by omega)
  refine Ev.congr (fun q => by rw [decide_eq_false c2]) (Ev.step (fun q => by rw [tenorref8_point.j0, if_neg (by decide), e1, e12, e7a, e7, ex7, ex1, rin, rin, Option.bind_some, Option.bind_some]) ?_)
  refine ev_ite (fun u2 => ev_ite (fun u3 => by rw [if_pos u3]; exact told_day _) (fun u3 => by rw [if_neg u3, if_pos (show s.u = 1 by omega)]; exact told_day _)) (fun u2 => ?_)
  rw [if_neg (show ¬ s.u = 2 by omega), if_neg (show ¬ s.u = 1 by omega)]
  unfold Sp.mons
  refine ev_ite (fun u4 => by rw [if_pos u4]; exact rpoint_j1 s x _ hx hro) (fun u4 => by rw [if_neg u4]; exact rpoint_j1 s x _ hx hro)
end Go.Proofs.Ytoncignjcgjhhaa.S
