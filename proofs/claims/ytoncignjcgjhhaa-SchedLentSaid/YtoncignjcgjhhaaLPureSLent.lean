/- The statement that a schedule's lists are lent: both tell the same lists again, and the rules stay. Condition: the rules' numbers are of 64 bits. -/
import Derived.Test.YtoncignjcgjhhaaLGO
import Derived.Test.YtoncignjcgjhhaaLGP
import Derived.Test.YtoncignjcgjhhaaLGQ
set_option linter.unusedVariables false
set_option linter.unusedSimpArgs false
namespace Go.Proofs.Ytoncignjcgjhhaa.S
open Go.RowKit Go.Proofs.YtoncignjcgjhhaaW.PrintWords Go.Proofs.YtoncignjcgjhhaaW.PrintLast Go.Proofs.YtoncignjcgjhhaaW.PrintMore
open Go.Proofs.Ytoncignjcgjhhaa.Q
open Go.Proofs.Ytoncignjcgjhhaa.L (w64 td tm tm0)
theorem lent2 (l : List S63) (hl : l.length ≤ 8) (e1 e2 : Int) (b : List Int) (p : List S81) (a0 a1 a2 a3 a4 a5 a6 a7 a8 : Int)
  (hb : Ev (fun q => tenorref8_SameInts.f q b b) true) (hp : Ev (fun q => tenorref8_SamePeriods.f q p p) true) : ∀ (f i : Nat), l.length - i = f → i ≤ l.length →
  Ev (fun q => tenorlaw8_SchedLent.l2 q ([] ++ l) e1 b e1 e2 p e2 b e1 p e2 (i : Int) a0 a1 a2 a3 a4 a5 a6 a7 a8 l) true
 | 0, i, hf, hi => by
  refine Ev.step (fun q => by rw [tenorlaw8_SchedLent.l2, if_neg (show ¬ ((i : Int) < (([] ++ l : List S63).length : Int)) by rw [List.nil_append]; omega)]) ?_
  refine Ev.bind hb (Ev.congr (fun q => if_pos rfl) (Ev.bind hp ?_))
  refine Ev.congr (fun q => ?_) (Ev.bind awake8 (Ev.now true))
  rw [if_pos rfl, if_pos rfl, if_pos rfl, if_pos rfl, if_pos rfl]
 | f + 1, i, hf, hi => by
  have c1 : (i : Int) < (l.length : Int) := by omega
  have c2 : (0 : Int) ≤ (i : Int) := by omega
  have hw : wrap64 ((i : Int) + 1) = ((i + 1 : Nat) : Int) := by rw [w64 (by omega) (by omega)]; push_cast; rfl
  have hrec := lent2 l hl e1 e2 b p a0 a1 a2 a3 a4 a5 a6 a7 a8 hb hp f (i + 1) (by omega) (by omega)
  refine Ev.step (fun q => ?_) hrec
  rw [tenorlaw8_SchedLent.l2, if_pos (show (i : Int) < (([] ++ l : List S63).length : Int) by rw [List.nil_append]; exact c1), if_pos c2, if_pos c1, hw, if_neg (by simp)]
theorem lent1 (l : List S63) (hl : l.length ≤ 8) (e1 e2 : Int) (b : List Int) (p : List S81) (a0 a1 a2 a3 a4 a5 a6 a7 a8 : Int)
  (h2 : Ev (fun q => tenorlaw8_SchedLent.l2 q ([] ++ l) e1 b e1 e2 p e2 b e1 p e2 0 a0 a1 a2 a3 a4 a5 a6 a7 a8 l) true) : ∀ (f i : Nat) (x : List S81), x.length - i = f → i ≤ x.length → x.length ≤ 5000 →
  Ev (fun q => tenorlaw8_SchedLent.l1 q ([] ++ l) e1 b e1 x e2 p e2 b e1 p e2 (i : Int) a0 a1 a2 a3 a4 a5 a6 a7 a8 l) true
 | 0, i, x, hf, hi, hx => Ev.step (fun q => by rw [tenorlaw8_SchedLent.l1, if_neg (show ¬ ((i : Int) < (x.length : Int)) by omega)]) h2
 | f + 1, i, x, hf, hi, hx => by
  have c1 : (i : Int) < (x.length : Int) := by omega
  have c2 : (0 : Int) ≤ (i : Int) := by omega
  have hw : wrap64 ((i : Int) + 1) = ((i + 1 : Nat) : Int) := by rw [w64 (by omega) (by omega)]; push_cast; rfl
  have hrec := lent1 l hl e1 e2 b p a0 a1 a2 a3 a4 a5 a6 a7 a8 h2 f (i + 1) (x.set i (⟨(-5), 0, 0, 0, 0⟩ : S81)) (by rw [List.length_set]; omega) (by rw [List.length_set]; omega) (by rw [List.length_set]; omega)
  refine Ev.step (fun q => ?_) hrec
  rw [tenorlaw8_SchedLent.l1, if_pos c1, if_pos c2, hw, Int.toNat_natCast]
theorem lent0 (l : List S63) (hl : l.length ≤ 8) (e1 e2 : Int) (b : List Int) (p : List S81) (a0 a1 a2 a3 a4 a5 a6 a7 a8 : Int)
  (h1 : Ev (fun q => tenorlaw8_SchedLent.l1 q ([] ++ l) e1 b e1 p e2 p e2 b e1 p e2 0 a0 a1 a2 a3 a4 a5 a6 a7 a8 l) true) : ∀ (f i : Nat) (x : List Int), x.length - i = f → i ≤ x.length → x.length ≤ 5000 →
  Ev (fun q => tenorlaw8_SchedLent.l0 q ([] ++ l) x e1 b e1 p e2 p e2 b e1 p e2 (i : Int) a0 a1 a2 a3 a4 a5 a6 a7 a8 l) true
 | 0, i, x, hf, hi, hx => Ev.step (fun q => by rw [tenorlaw8_SchedLent.l0, if_neg (show ¬ ((i : Int) < (x.length : Int)) by omega)]) h1
 | f + 1, i, x, hf, hi, hx => by
  have c1 : (i : Int) < (x.length : Int) := by omega
  have c2 : (0 : Int) ≤ (i : Int) := by omega
  have hw : wrap64 ((i : Int) + 1) = ((i + 1 : Nat) : Int) := by rw [w64 (by omega) (by omega)]; push_cast; rfl
  have hrec := lent0 l hl e1 e2 b p a0 a1 a2 a3 a4 a5 a6 a7 a8 h1 f (i + 1) (x.set i (-1)) (by rw [List.length_set]; omega) (by rw [List.length_set]; omega) (by rw [List.length_set]; omega)
  refine Ev.step (fun q => ?_) hrec
  rw [tenorlaw8_SchedLent.l0, if_pos c1, if_pos c2, hw, Int.toNat_natCast]
theorem SchedLent (s : Sp) (hw : wfL s.l) : Ev (fun q => tenorlaw8_SchedLent.f q s.a s.b s.n s.u s.st s.ro s.cv s.lag s.we s.l) true := by
 have ha : Ev (fun k => (tenorlaw8_awake.f k).bind fun t => some t) true := Ev.bind awake8 (Ev.now _)
 by_cases h8 : (s.l.length : Int) > 8
 ·
  refine Ev.congr (fun q => by unfold tenorlaw8_SchedLent.f tenorlaw8_small.f; rw [if_pos h8]; rfl) ha
 have hs : ∃ t, Ev (fun q => tenorlaw8_small.f q s.a s.b s.n s.u s.st s.ro s.cv s.lag s.we s.l) t := by
  have hj : ∀ x, ∃ t, Ev (fun q => tenorlaw8_small.j0 q x s.a s.b s.n s.u s.st s.ro s.cv s.lag s.we s.l) t := by
   intro x
   have hex : ∃ t : Bool, ∀ q, tenorlaw8_small.j0 (q + 1) x s.a s.b s.n s.u s.st s.ro s.cv s.lag s.we s.l = some t := by
    simp only [tenorlaw8_small.j0]
    repeat' split
    all_goals exact ⟨_, fun _ => rfl⟩
   obtain ⟨t, ht⟩ := hex
   exact ⟨t, Ev.step ht (Ev.now _)⟩
  obtain ⟨t1, h1⟩ := hj true
  obtain ⟨t2, h2⟩ := hj (decide (s.a > s.b))
  unfold tenorlaw8_small.f
  repeat' split
  ·
   exact ⟨_, Ev.now _⟩
  all_goals first | exact ⟨_, h1⟩ | exact ⟨_, h2⟩
 obtain ⟨t, ht⟩ := hs
 refine Ev.congr (fun q => by unfold tenorlaw8_SchedLent.f; rfl) (Ev.bind ht ?_)
 refine ev_ite (fun _ => ?_) (fun _ => ha)
 refine Ev.congr (fun q => by rw [Option.bind_some, if_pos (show ([] : List S63).length + s.l.length < 1954687338268 by rw [List.length_nil]; omega)]) ?_
 refine Ev.bind (sDates s hw) (Ev.bind (sDates s hw) (Ev.bind (sPeriods s hw) (Ev.bind (sPeriods s hw) (Ev.bind (rDates s) (Ev.bind (rPeriods s) ?_)))))
 exact lent0 s.l (by omega) _ _ _ _ _ _ _ _ _ _ _ _ _ (lent1 s.l (by omega) _ _ _ _ _ _ _ _ _ _ _ _ _ (lent2 s.l (by omega) _ _ _ _ _ _ _ _ _ _ _ _ _ (SameInts _ (dates_len s)) (samePer _ (periods_len s)) _ 0 rfl (Nat.zero_le _)) _ 0 _ rfl (Nat.zero_le _) (periods_len s)) _ 0 _ rfl (Nat.zero_le _) (dates_len s)
end Go.Proofs.Ytoncignjcgjhhaa.S
