/- The statement of a schedule's dates: the program's are the document's. Condition: the rules' numbers are of 64 bits. -/
import Derived.Test.YtoncignjcgjhhaaYGS
set_option linter.unusedVariables false
set_option linter.unusedSimpArgs false
namespace Go.Proofs.Ytoncignjcgjhhaa.S
open Go.RowKit Go.Proofs.YtoncignjcgjhhaaW.PrintWords Go.Proofs.YtoncignjcgjhhaaW.PrintLast Go.Proofs.YtoncignjcgjhhaaW.PrintMore
open Go.Proofs.Ytoncignjcgjhhaa.Q
open Go.Proofs.Ytoncignjcgjhhaa.L (w64 td tm tm0)
theorem SameInts_l0 (l : List Int) (hl : l.length ≤ 5000) : ∀ (f i : Nat), l.length - i = f → i ≤ l.length → Ev (fun k => tenorref8_SameInts.l0 k l l (i : Int)) true
 | 0, i, hf, hi => by
  refine Ev.step (f := fun _ => some true) (fun k => ?_) (Ev.now _)
  rw [tenorref8_SameInts.l0, if_neg (by omega)]
 | f + 1, i, hf, hi => by
  have c1 : (i : Int) < (l.length : Int) := by omega
  have c2 : (0 : Int) ≤ (i : Int) := by omega
  have hw : wrap64 ((i : Int) + 1) = ((i + 1 : Nat) : Int) := by rw [w64 (by omega) (by omega)]; push_cast; rfl
  refine Ev.step (fun k => ?_) (SameInts_l0 l hl f (i + 1) (by omega) (by omega))
  rw [tenorref8_SameInts.l0, if_pos c1, if_pos c2, if_pos c1, if_pos rfl, hw]
theorem SameInts (l : List Int) (hl : l.length ≤ 5000) : Ev (fun k => tenorref8_SameInts.f k l l) true := by
  refine Ev.congr (fun k => by unfold tenorref8_SameInts.f; rw [if_pos rfl]; rfl) (SameInts_l0 l hl l.length 0 (by omega) (by omega))
theorem inn_len (s : Sp) (b : Bool) (x z d : Int) : ∀ (f i : Nat) (p : List Int × Bool), s.inn b x z d f i = some p → p.1.length ≤ f
 | 0, i, p, h => by cases h
 | f + 1, i, p, h => by
  rw [Sp.inn] at h
  cases ho : s.pt x (d * ((i : Int) + 1)) with
  | none => rw [ho] at h; simp only [Option.some.injEq] at h; subst h; exact Nat.zero_le _
  | some n =>
   rw [ho] at h
   simp only at h
   by_cases c1 : n = z
   ·
    rw [if_pos c1] at h; simp only [Option.some.injEq] at h; subst h; exact Nat.zero_le _
   ·
    rw [if_neg c1] at h
    by_cases c2 : (if b = true then n < z else n > z)
    ·
     rw [if_pos c2] at h; simp only [Option.some.injEq] at h; subst h; exact Nat.zero_le _
    ·
     rw [if_neg c2] at h
     by_cases c3 : 1200 < (i : Int) + 2
     ·
      rw [if_pos c3] at h; cases h
     ·
      rw [if_neg c3] at h
      obtain ⟨q, hq, rfl⟩ := Option.map_eq_some_iff.1 h
      have := inn_len s b x z d f (i + 1) q hq
      simp only [List.length_cons]; omega
theorem dates_len (s : Sp) : s.dates.1.length ≤ 5000 := by
 unfold Sp.dates
 by_cases hc : s.chk = 0
 ·
  rw [if_pos hc]
  have key : ∀ o : Option (List Int × Bool), (∀ p, o = some p → p.1.length ≤ 1200) → (match o with | none => (([] : List Int), (81 : Int)) | some (l, e) => (s.out l e, 0)).1.length ≤ 5000 := by
   intro o h
   cases o with
   | none => exact Nat.zero_le _
   | some p =>
    have h1 := h p rfl;have h2 := cut_len s.long p.2 p.1
    show (s.out p.1 p.2).length ≤ 5000
    unfold Sp.out
    rw [List.length_append, List.length_cons, ord_len]
    simp only [List.length_cons, List.length_nil]; omega
  refine key _ (fun p hp => ?_)
  split at hp
  ·
   exact inn_len s _ _ _ _ 1200 0 p hp
  ·
   exact inn_len s _ _ _ _ 1200 0 p hp
 ·
  rw [if_neg hc]; exact Nat.zero_le _
theorem SchedDates (s : Sp) (hw : wfL s.l) : Ev (fun k => tenorlaw8_SchedDates.f k s.a s.b s.n s.u s.st s.ro s.cv s.lag s.we s.l) true := by
 have ha : Ev (fun k => (tenorlaw8_awake.f k).bind fun t => some t) true := Ev.bind awake8 (Ev.now _)
 refine Ev.congr (fun k => by unfold tenorlaw8_SchedDates.f; rfl) (ev_ite (fun _ => ha) (fun _ => ?_))
 refine Ev.bind (sDates s hw) (Ev.bind (rDates s) (Ev.bind (SameInts _ (dates_len s)) ?_))
 exact Ev.congr (fun k => by rw [if_pos rfl, if_pos rfl]) ha
end Go.Proofs.Ytoncignjcgjhhaa.S
