/- The statement of a schedule's steps: the cuts are the anchor's points, a long stub has one cut less at most. Condition: the rules' numbers are of 64 bits. -/
import Derived.Test.YtoncignjcgjhhaaTSchP
import Derived.Test.YtoncignjcgjhhaaTSchC
import Derived.Test.YtoncignjcgjhhaaTGK
import Derived.Test.YtoncignjcgjhhaaTQx85
set_option linter.unusedVariables false
set_option linter.unusedSimpArgs false
namespace Go.Proofs.Ytoncignjcgjhhaa.S
open Go.RowKit Go.Proofs.YtoncignjcgjhhaaW.PrintWords Go.Proofs.YtoncignjcgjhhaaW.PrintLast Go.Proofs.YtoncignjcgjhhaaW.PrintMore
open Go.Proofs.Ytoncignjcgjhhaa.Q
open Go.Proofs.Ytoncignjcgjhhaa.L (w64 td tm tm0)
def Sp.inner (s : Sp) : Option (List Int × Bool) := if s.back = true then s.inn true s.b s.a (-1) 1200 0 else s.inn false s.a s.b 1 1200 0
theorem inn_get (s : Sp) (b : Bool) (x z d : Int) : ∀ (f i : Nat) (p : List Int × Bool), s.inn b x z d f i = some p → p.1.length ≤ f ∧ ∀ (j : Nat) (h : j < p.1.length), s.pt x (d * (((i + j : Nat) : Int) + 1)) = some p.1[j]
 | 0, i, p, h => by cases h
 | f + 1, i, p, h => by
  have hnil : ∀ e : Bool, p = (([] : List Int), e) → p.1.length ≤ f + 1 ∧ ∀ (j : Nat) (h : j < p.1.length), s.pt x (d * (((i + j : Nat) : Int) + 1)) = some p.1[j] := by
   intro e he; subst he; exact ⟨Nat.zero_le _, fun j h => absurd h (Nat.not_lt_zero _)⟩
  rw [Sp.inn] at h
  cases ho : s.pt x (d * ((i : Int) + 1)) with
  | none => rw [ho] at h; simp only [Option.some.injEq] at h; exact hnil _ h.symm
  | some n =>
   rw [ho] at h
   simp only at h
   by_cases c1 : n = z
   ·
    rw [if_pos c1] at h; simp only [Option.some.injEq] at h; exact hnil _ h.symm
   ·
    rw [if_neg c1] at h
    by_cases c2 : (if b = true then n < z else n > z)
    ·
     rw [if_pos c2] at h; simp only [Option.some.injEq] at h; exact hnil _ h.symm
    ·
     rw [if_neg c2] at h
     by_cases c3 : 1200 < (i : Int) + 2
     ·
      rw [if_pos c3] at h; cases h
     ·
      rw [if_neg c3] at h
      obtain ⟨q, hq, rfl⟩ := Option.map_eq_some_iff.1 h
      obtain ⟨hl, hg⟩ := inn_get s b x z d f (i + 1) q hq
      refine ⟨by simp only [List.length_cons]; omega, fun j hj => ?_⟩
      cases j with
      | zero => simpa using ho
      | succ j =>
       have := hg j (by simpa using hj)
       rw [show i + (j + 1) = i + 1 + j by omega, this]
       rfl
theorem dates_ok {s : Sp} (h : s.dates.2 = 0) : s.chk = 0 ∧ ∃ l e, s.inner = some (l, e) ∧ s.dates = (s.out l e, 0) := by
 unfold Sp.dates at h
 by_cases hc : s.chk = 0
 ·
  refine ⟨hc, ?_⟩
  rw [if_pos hc] at h
  unfold Sp.dates
  rw [if_pos hc]
  show ∃ l e, s.inner = some (l, e) ∧ (match s.inner with | none => (([] : List Int), (81 : Int)) | some (l, e) => (s.out l e, 0)) = (s.out l e, 0)
  have h' : (match s.inner with | none => (([] : List Int), (81 : Int)) | some (l, e) => (s.out l e, 0)).2 = 0 := h
  cases hi : s.inner with
  | none => rw [hi] at h'; exact absurd (show (81 : Int) = 0 from h') (by decide)
  | some p => exact ⟨p.1, p.2, rfl, rfl⟩
 ·
  rw [if_neg hc] at h
  exact absurd h hc
theorem inner_pt {s : Sp} {l : List Int} {e : Bool} (h : s.inner = some (l, e)) : l.length ≤ 1200 ∧ ∀ (j : Nat) (hj : j < l.length), (if s.back = true then s.pt s.b (-((j : Int) + 1)) else s.pt s.a ((j : Int) + 1)) = some l[j] := by
 unfold Sp.inner at h
 cases hb : s.back with
 | true =>
  rw [hb, if_pos rfl] at h
  obtain ⟨h1, h2⟩ := inn_get s _ _ _ _ _ _ _ h
  refine ⟨h1, fun j hj => ?_⟩
  rw [if_pos rfl]
  have := h2 j hj
  rw [show (-1 : Int) * (((0 + j : Nat) : Int) + 1) = -((j : Int) + 1) by push_cast; omega] at this
  exact this
 | false =>
  rw [hb, if_neg (by decide)] at h
  obtain ⟨h1, h2⟩ := inn_get s _ _ _ _ _ _ _ h
  refine ⟨h1, fun j hj => ?_⟩
  rw [if_neg (by decide)]
  have := h2 j hj
  rw [show (1 : Int) * (((0 + j : Nat) : Int) + 1) = (j : Int) + 1 by push_cast; omega] at this
  exact this
theorem cut_get (a e : Bool) (l : List Int) (j : Nat) (h : j < (cutL a e l).length) : ∃ h2 : j < l.length, (cutL a e l)[j] = l[j] := by
 have hl := cut_len a e l
 refine ⟨by omega, ?_⟩
 by_cases hc : a = true ∧ e = false ∧ 0 < l.length
 ·
  have e1 : cutL a e l = l.take (l.length - 1) := by unfold cutL; rw [if_pos hc]
  simp only [e1, List.getElem_take]
 ·
  have e1 : cutL a e l = l := by unfold cutL; rw [if_neg hc]
  simp only [e1]
theorem out_len (s : Sp) (l : List Int) (e : Bool) : (s.out l e).length = (cutL s.long e l).length + 2 := by
  unfold Sp.out; rw [List.length_append, List.length_cons, ord_len]; rfl
theorem out_pt {s : Sp} {l : List Int} {e : Bool} (h : s.inner = some (l, e)) (i : Nat) (h1 : 1 ≤ i) (h2 : i + 1 < (s.out l e).length) : (if s.back = true then s.pt s.b ((i : Int) + 1 - ((s.out l e).length : Int)) else s.pt s.a (i : Int)) = some (rd (s.out l e) (i : Int)) := by
 have hlen := out_len s l e
 have hi : i - 1 < (cutL s.long e l).length := by omega
 have hr : rd (s.out l e) (i : Int) = (ordL s.back (cutL s.long e l))[i - 1]'(by rw [ord_len]; exact hi) := by
  rw [rdI _ _ (by omega)]
  obtain ⟨m, rfl⟩ : ∃ m, i = m + 1 := ⟨i - 1, by omega⟩
  simp only [Sp.out, List.cons_append, List.getElem_cons_succ, Nat.add_sub_cancel]
  rw [List.getElem_append_left (by rw [ord_len]; exact hi)]
 rw [hr, ord_rd _ _ _ hi]
 obtain ⟨_, hp⟩ := inner_pt h
 cases hb : s.back with
 | true =>
  rw [if_pos rfl, if_pos rfl]
  have ej : ((cutL s.long e l).length : Int) - 1 - ((i - 1 : Nat) : Int) = (((cutL s.long e l).length - 1 - (i - 1) : Nat) : Int) := by omega
  have hj : (cutL s.long e l).length - 1 - (i - 1) < (cutL s.long e l).length := by omega
  rw [ej, rdI _ _ hj]
  obtain ⟨g1, g2⟩ := cut_get s.long e l _ hj
  have := hp _ g1
  rw [hb, if_pos rfl] at this
  rw [g2, ← this]
  congr 1
  rw [hlen]; push_cast; omega
 | false =>
  rw [if_neg (by decide), if_neg (by decide), rdI _ _ hi]
  obtain ⟨g1, g2⟩ := cut_get s.long e l _ hi
  have := hp _ g1
  rw [hb, if_neg (by decide)] at this
  rw [g2, ← this]
  congr 1
  omega
theorem pt_st (s : Sp) (t x k : Int) : ({ s with st := t } : Sp).pt x k = s.pt x k := rfl
theorem inn_st (s : Sp) (t : Int) (b : Bool) (x z d : Int) : ∀ f i, ({ s with st := t } : Sp).inn b x z d f i = s.inn b x z d f i
  | 0, i => rfl
  | f + 1, i => by rw [Sp.inn, Sp.inn, inn_st s t b x z d f (i + 1)]; rfl
theorem dates_long {s : Sp} (t : Int) (ht : (s.st = 1 ∧ t = 2) ∨ (s.st = 3 ∧ t = 4)) {l : List Int} {e : Bool} (hc : s.chk = 0) (h : s.inner = some (l, e)) : ∃ m, ({ s with st := t } : Sp).dates = (m, 0) ∧ (m.length = (s.out l e).length ∨ (m.length : Int) = ((s.out l e).length : Int) - 1) := by
 obtain ⟨hd, hf, hck⟩ := chk_ok hc
 have hf2 : ({ s with st := t } : Sp).fit := by
  obtain ⟨a1, a2, a3, a4, a5, a6, a7, a8⟩ := hf
  exact ⟨a1, a2, a3, (by show 1 ≤ t ∧ t ≤ 4; omega), a5, a6, a7, a8⟩
 have hc2 : ({ s with st := t } : Sp).chk = 0 := by rw [chk_fit (s := { s with st := t }) hd hf2]; exact hck
 have hb : ({ s with st := t } : Sp).back = s.back := by
  unfold Sp.back; rw [decide_eq_decide]; show t ≤ 2 ↔ s.st ≤ 2; omega
 have hl0 : s.long = false := by unfold Sp.long; exact decide_eq_false (by omega)
 have hl1 : ({ s with st := t } : Sp).long = true := by unfold Sp.long; exact decide_eq_true (by show t = 2 ∨ t = 4; omega)
 have hi : ({ s with st := t } : Sp).inner = some (l, e) := by
  rw [← h]; unfold Sp.inner; rw [hb]; simp only [inn_st]
 refine ⟨({ s with st := t } : Sp).out l e, ?_, ?_⟩
 ·
  unfold Sp.dates
  rw [if_pos hc2]
  show (match ({ s with st := t } : Sp).inner with | none => (([] : List Int), (81 : Int)) | some (l, e) => (({ s with st := t } : Sp).out l e, 0)) = _
  rw [hi]
 ·
  rw [out_len, out_len, hl0, hl1]
  unfold cutL
  rw [if_neg (show ¬ (false = true ∧ e = false ∧ 0 < l.length) from fun h => by cases h.1)]
  by_cases hc : (true = true ∧ e = false ∧ 0 < l.length)
  ·
   rw [if_pos hc]; right; rw [List.length_take]; have := hc.2.2; omega
  ·
   rw [if_neg hc]; left; rfl
theorem point_told {s : Sp} (hc : s.chk = 0) {x k v : Int} (hx : 0 ≤ x ∧ x ≤ 109572) (h : s.pt x k = some v) : s.point x k = (v, true) := by
  unfold Sp.point; rw [if_pos hc, if_pos hx, h]; rfl
theorem Steps_l0 (s : Sp) (hw : wfL s.l) (hc : s.chk = 0) {l : List Int} {e : Bool} (hi : s.inner = some (l, e)) (hn : (s.out l e).length ≤ 300) : ∀ (f i : Nat), (s.out l e).length - i = f → 1 ≤ i → i + 1 ≤ (s.out l e).length →
  Ev (fun q => tenorlaw8_SchedSteps.l0 q (s.out l e) s.back (i : Int) s.a s.b s.n s.u s.st s.ro s.cv s.lag s.we s.l) true
 | 0, i, hf, h1, h2 => by omega
 | f + 1, i, hf, h1, h2 => by
  have ha : Ev (fun k => (tenorlaw8_awake.f k).bind fun t => some t) true := Ev.bind awake8 (Ev.now _)
  have hw1 : wrap64 ((i : Int) + 1) = ((i + 1 : Nat) : Int) := by rw [w64 (by omega) (by omega)]; push_cast; rfl
  obtain ⟨hd, hfit, _⟩ := chk_ok hc
  by_cases c1 : ((i + 1 : Nat) : Int) < ((s.out l e).length : Int)
  ·
   have hp := out_pt hi i h1 (by omega)
   have c2 : (0 : Int) ≤ (i : Int) := by omega
   have c3 : (i : Int) < ((s.out l e).length : Int) := by omega
   have hrec := Steps_l0 s hw hc hi hn f (i + 1) (by omega) (by omega) (by omega)
   refine Ev.step (fun q => by rw [tenorlaw8_SchedSteps.l0, hw1, if_pos c1]) ?_
   cases hb : s.back with
   | true =>
    rw [hb, if_pos rfl] at hp
    rw [hb] at hrec
    have hw2 : wrap64 (((i + 1 : Nat) : Int) - ((s.out l e).length : Int)) = (i : Int) + 1 - ((s.out l e).length : Int) := by rw [w64 (by omega) (by omega)]; push_cast; rfl
    refine Ev.congr (fun q => by rw [if_pos rfl, hw2]) (Ev.bind (sPointF s s.b _ hw) ?_)
    rw [point_told hc hd.2 hp]
    exact Ev.congr (fun q => by rw [if_pos rfl, if_pos c2, if_pos c3, if_pos rfl]) hrec
   | false =>
    rw [hb, if_neg (by decide)] at hp
    rw [hb] at hrec
    refine Ev.congr (fun q => by rw [if_neg (by decide)]) (Ev.bind (sPointF s s.a _ hw) ?_)
    rw [point_told hc hd.1 hp]
    exact Ev.congr (fun q => by rw [if_pos rfl, if_pos c2, if_pos c3, if_pos rfl]) hrec
  ·
   refine Ev.step (fun q => by rw [tenorlaw8_SchedSteps.l0, hw1, if_neg c1]) ?_
   have hend : ∀ t : Int, (s.st = 1 ∧ t = 2) ∨ (s.st = 3 ∧ t = 4) → Ev (fun k => (sched_Dates.f k s.a s.b s.n s.u t s.ro s.cv s.lag s.we s.l).bind fun bt => (if bt.2 = 0 then (if (bt.1.length : Int) = ((s.out l e).length : Int) then ((tenorlaw8_awake.f k).bind fun t => (some t)) else (if (bt.1.length : Int) = (wrap64 (((s.out l e).length : Int) - 1)) then ((tenorlaw8_awake.f k).bind fun t => (some t)) else (some false))) else (some false))) true := by
    intro t ht
    obtain ⟨m, hm, hl⟩ := dates_long t ht hc hi
    have hs := sDates ({ s with st := t } : Sp) hw
    rw [hm] at hs
    refine Ev.bind hs ?_
    have hw3 : wrap64 (((s.out l e).length : Int) - 1) = ((s.out l e).length : Int) - 1 := w64 (by omega) (by omega)
    rcases hl with hl | hl
    ·
     exact Ev.congr (fun q => by rw [if_pos rfl, if_pos (by rw [hl])]) ha
    ·
     exact Ev.congr (fun q => by rw [if_pos rfl, if_neg (show ¬ (m.length : Int) = ((s.out l e).length : Int) by omega), hw3, if_pos hl]) ha
   exact ev_ite (fun c => hend 2 (.inl ⟨c, rfl⟩)) (fun _ => ev_ite (fun c => hend 4 (.inr ⟨c, rfl⟩)) (fun _ => ha))
theorem SchedSteps (s : Sp) (hw : wfL s.l) : Ev (fun k => tenorlaw8_SchedSteps.f k s.a s.b s.n s.u s.st s.ro s.cv s.lag s.we s.l) true := by
 have ha : Ev (fun k => (tenorlaw8_awake.f k).bind fun t => some t) true := Ev.bind awake8 (Ev.now _)
 have ht : ∀ l : List Int, Ev (fun k => tenorlaw8_SchedSteps.j0 k l true s.a s.b s.n s.u s.st s.ro s.cv s.lag s.we s.l) true := fun l =>
  Ev.step (fun q => by rw [tenorlaw8_SchedSteps.j0, if_pos rfl]) ha
 refine Ev.congr (fun k => by unfold tenorlaw8_SchedSteps.f; rfl) (Ev.bind (sDates s hw) ?_)
 refine ev_ite (fun h0 => ?_) (fun _ => ht _)
 obtain ⟨hc, l, e, hi, hd⟩ := dates_ok h0
 rw [hd]
 by_cases hn : ((s.out l e).length : Int) > 300
 ·
  exact Ev.congr (fun q => by rw [decide_eq_true hn]) (ht _)
 ·
  refine Ev.congr (fun q => by rw [decide_eq_false hn]) ?_
  have hl2 := out_len s l e
  have hj1 : Ev (fun k => tenorlaw8_SchedSteps.j1 k (s.out l e) s.back s.a s.b s.n s.u s.st s.ro s.cv s.lag s.we s.l) true :=
   Ev.step (fun q => by rw [tenorlaw8_SchedSteps.j1]; rfl) (Steps_l0 s hw hc hi (by omega) _ 1 rfl (by omega) (by omega))
  obtain ⟨_, hfit, _⟩ := chk_ok hc
  have hst := hfit.2.2.2.1
  refine Ev.step (fun q => by rw [tenorlaw8_SchedSteps.j0, if_neg (by decide)]) ?_
  refine ev_ite (fun c => ?_) (fun c => ?_)
  ·
   rw [show s.back = true from decide_eq_true (by omega)] at hj1; exact hj1
  ·
   have hbk : s.back = (s.st == 2) := by
    by_cases h2 : s.st = 2
    ·
     rw [beq_iff_eq.2 h2]; exact decide_eq_true (by omega)
    ·
     rw [beq_eq_false_iff_ne.2 h2]; exact decide_eq_false (by omega)
   rw [hbk] at hj1; exact hj1
end Go.Proofs.Ytoncignjcgjhhaa.S
