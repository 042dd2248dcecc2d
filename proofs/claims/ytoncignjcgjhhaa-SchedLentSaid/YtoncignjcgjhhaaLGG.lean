/- Contracts and facts of functions of the program (calendar, dates and their documents), joined in one text by a program of this session. No condition but what each theorem states. -/
import Derived.Test.YtoncignjcgjhhaaLGE
import Derived.Test.YtoncignjcgjhhaaLGF
import Derived.Test.YtoncignjcgjhhaaLGA
import Derived.Test.YtoncignjcgjhhaaLGD
import Derived.Test.YtoncignjcgjhhaaLGC
set_option linter.unusedVariables false
set_option linter.unusedSimpArgs false
namespace Go.Proofs.Ytoncignjcgjhhaa.S
open Go.RowKit Go.Proofs.YtoncignjcgjhhaaW.PrintWords Go.Proofs.YtoncignjcgjhhaaW.PrintLast Go.Proofs.YtoncignjcgjhhaaW.PrintMore
open Go.Proofs.Ytoncignjcgjhhaa.Q
open Go.Proofs.Ytoncignjcgjhhaa.L (w64 td tm tm0)
def Sp.inn (s : Sp) (back : Bool) (x z d : Int) : Nat → Nat → Option (List Int × Bool)
 | 0, _ => none
 | f + 1, i => match s.pt x (d * ((i : Int) + 1)) with
  | none => some ([], false)
  | some n => if n = z then some ([], true) else if (if back = true then n < z else n > z) then some ([], false)
   else if 1200 < (i : Int) + 2 then none else (s.inn back x z d f (i + 1)).map fun p => (n :: p.1, p.2)
def Sp.back (s : Sp) : Bool := decide (s.st ≤ 2)
def cutL (long e : Bool) (l : List Int) : List Int := if long = true ∧ e = false ∧ 0 < l.length then l.take (l.length - 1) else l
def ordL (back : Bool) (l : List Int) : List Int := if back = true then l.reverse else l
def Sp.long (s : Sp) : Bool := decide (s.st = 2 ∨ s.st = 4)
def Sp.out (s : Sp) (l : List Int) (e : Bool) : List Int := s.a :: ordL s.back (cutL s.long e l) ++ [s.b]
noncomputable def Sp.dates (s : Sp) : List Int × Int :=
  if s.chk = 0 then (match (if s.back = true then s.inn true s.b s.a (-1) 1200 0 else s.inn false s.a s.b 1 1200 0) with | none => ([], 81) | some (l, e) => (s.out l e, 0)) else ([], s.chk)
theorem rdI (l : List Int) (i : Nat) (h : i < l.length) : rd l (i : Int) = l[i] := by simp [rd, h]
theorem take_snoc (l : List Int) (i : Nat) (h : i < l.length) : l.take i ++ [l[i]] = l.take (i + 1) := by
  rw [List.take_add_one, List.getElem?_eq_getElem h]; rfl
theorem ord_len (b : Bool) (l : List Int) : (ordL b l).length = l.length := by unfold ordL; split <;> simp
theorem ord_rd (b : Bool) (l : List Int) (i : Nat) (h : i < l.length) : (ordL b l)[i]'(by rw [ord_len]; exact h) = if b = true then rd l ((l.length : Int) - 1 - (i : Int)) else rd l (i : Int) := by
 cases b with
 | true =>
  have e : (l.length : Int) - 1 - (i : Int) = ((l.length - 1 - i : Nat) : Int) := by omega
  rw [if_pos rfl, e, rdI _ _ (by omega)]
  simp [ordL]
 | false => rw [if_neg (by decide), rdI _ _ h]; rfl
theorem cut_len (a e : Bool) (l : List Int) : (cutL a e l).length ≤ l.length := by unfold cutL; split <;> simp <;> omega
theorem chk_ok {s : Sp} (h : s.chk = 0) : s.days ∧ s.fit ∧ ck s.we s.l = 0 := by
 by_cases h1 : s.days
 ·
  by_cases h2 : s.fit
  ·
   rw [chk_fit h1 h2] at h; exact ⟨h1, h2, h⟩
  ·
   rw [chk_unfit h1 h2] at h; exact absurd h (by decide)
 ·
  rw [chk_days h1] at h; exact absurd h (by decide)
theorem sD_l1 (s : Sp) (b : Bool) (l : List Int) (hl : l.length ≤ 5000) : ∀ (f i : Nat), l.length - i = f → i ≤ l.length →
  Ev (fun q => sched_Dates.l1 q b l (s.a :: (ordL b l).take i) (l.length : Int) (i : Int) s.a s.b s.n s.u s.st s.ro s.cv s.lag s.we s.l) (s.a :: ordL b l ++ [s.b], (0 : Int))
 | 0, i, hf, hi => by
  have c1 : ¬ (i : Int) < (l.length : Int) := by omega
  have e : (ordL b l).take i = ordL b l := List.take_of_length_le (by rw [ord_len]; omega)
  have c2 : (s.a :: ordL b l).length < 17592186044416 := by rw [List.length_cons, ord_len]; omega
  refine Ev.step (f := fun _ => some (s.a :: ordL b l ++ [s.b], (0 : Int))) (fun q => ?_) (Ev.now _)
  rw [sched_Dates.l1, if_neg c1, e, if_pos c2]
 | f + 1, i, hf, hi => by
  have hlt : i < l.length := by omega
  have c1 : (i : Int) < (l.length : Int) := by omega
  have c0 : (0 : Int) ≤ (i : Int) := by omega
  have hw : wrap64 ((i : Int) + 1) = ((i + 1 : Nat) : Int) := by rw [w64 (by omega) (by omega)]; push_cast; rfl
  have hv : wrap64 (wrap64 ((l.length : Int) - 1) - (i : Int)) = (l.length : Int) - 1 - (i : Int) := by rw [w64 (x := (l.length : Int) - 1) (by omega) (by omega), w64 (by omega) (by omega)]
  have c2 : (s.a :: (ordL b l).take i).length < 17592186044416 := by rw [List.length_cons, List.length_take]; omega
  have c3 : (0 : Int) ≤ (l.length : Int) - 1 - (i : Int) := by omega
  have c4 : (l.length : Int) - 1 - (i : Int) < (l.length : Int) := by omega
  have hsn : (ordL b l).take i ++ [if b = true then rd l ((l.length : Int) - 1 - (i : Int)) else rd l (i : Int)] = (ordL b l).take (i + 1) := by
   rw [← ord_rd b l i hlt]; exact take_snoc _ i _
  refine Ev.step (fun q => ?_) (sD_l1 s b l hl f (i + 1) (by omega) (by omega))
  rw [sched_Dates.l1, if_pos c1, hw, hv, ← hsn]
  cases b with
  | true => rw [if_pos rfl, if_pos c3, if_pos c4, if_pos c2, if_pos rfl]; rfl
  | false => rw [if_neg (by decide), if_pos c0, if_pos c1, if_pos c2, if_neg (by decide)]; rfl
theorem sD_j7 (s : Sp) (b : Bool) (l : List Int) (hl : l.length ≤ 5000) : Ev (fun q => sched_Dates.j7 q b l s.a s.b s.n s.u s.st s.ro s.cv s.lag s.we s.l) (s.a :: ordL b l ++ [s.b], (0 : Int)) := by
 have hw : wrap64 ((l.length : Int) + 2) = (l.length : Int) + 2 := w64 (by omega) (by omega)
 have c1 : (0 : Int) ≤ (l.length : Int) + 2 := by omega
 have c2 : ((l.length : Int) + 2).toNat ≤ 35184372088832 := by omega
 have h := sD_l1 s b l hl l.length 0 (by omega) (by omega)
 refine Ev.step (fun q => ?_) h
 rw [sched_Dates.j7, hw, if_pos c1, if_pos c2]
 simp only [List.replicate_zero, Option.bind_some, List.length_nil, List.nil_append, List.take_zero]
 rw [if_pos (by decide)]
 rfl
theorem sD_j4 (s : Sp) (b e : Bool) (l : List Int) (hl : l.length ≤ 5000) : Ev (fun q => sched_Dates.j4 q b l e s.a s.b s.n s.u s.st s.ro s.cv s.lag s.we s.l) (s.a :: ordL b (cutL s.long e l) ++ [s.b], (0 : Int)) := by
 have h6 : ∀ t : Bool, (t = true ↔ s.long = true ∧ e = false ∧ 0 < l.length) → Ev (fun q => sched_Dates.j6 q b l t s.a s.b s.n s.u s.st s.ro s.cv s.lag s.we s.l) (s.a :: ordL b (cutL s.long e l) ++ [s.b], (0 : Int)) := by
  intro t ht
  cases t with
  | true =>
   have h := ht.1 rfl
   have hw : wrap64 ((l.length : Int) - 1) = (l.length : Int) - 1 := w64 (by omega) (by omega)
   have c1 : (0 : Int) ≤ (l.length : Int) - 1 := by omega
   have c2 : (l.length : Int) - 1 ≤ (l.length : Int) := by omega
   have e1 : ((l.length : Int) - 1).toNat = l.length - 1 := by omega
   have e2 : cutL s.long e l = l.take (l.length - 1) := if_pos h
   rw [e2]
   refine Ev.step (fun q => ?_) (sD_j7 s b (l.take (l.length - 1)) (by rw [List.length_take]; omega))
   rw [sched_Dates.j6, if_pos rfl, hw, if_pos c1, if_pos c2, e1]
  | false =>
   have e2 : cutL s.long e l = l := if_neg (fun h => by have := ht.2 h; cases this)
   rw [e2]
   exact Ev.step (fun q => by rw [sched_Dates.j6, if_neg (by decide)]) (sD_j7 s b l hl)
 have h5 : ∀ t : Bool, t = s.long → Ev (fun q => sched_Dates.j5 q b l e t s.a s.b s.n s.u s.st s.ro s.cv s.lag s.we s.l) (s.a :: ordL b (cutL s.long e l) ++ [s.b], (0 : Int)) := by
  intro t ht
  cases t with
  | true =>
   cases e with
   | true => exact Ev.step (fun q => by rw [sched_Dates.j5, if_pos rfl, if_pos rfl]) (h6 false (by simp))
   | false =>
    refine Ev.step (fun q => by rw [sched_Dates.j5, if_pos rfl, if_neg (by decide)]) (h6 _ ?_)
    rw [← ht, decide_eq_true_iff]
    constructor
    ·
     intro h; exact ⟨rfl, rfl, by omega⟩
    ·
     intro h; have := h.2.2; omega
  | false => exact Ev.step (fun q => by rw [sched_Dates.j5, if_neg (by decide)]) (h6 false (by rw [← ht]; simp))
 by_cases h2 : s.st = 2
 ·
  exact Ev.step (fun q => by rw [sched_Dates.j4, if_pos h2]) (h5 true (by unfold Sp.long; rw [decide_eq_true (Or.inl h2)]))
 ·
  refine Ev.step (fun q => by rw [sched_Dates.j4, if_neg h2]) (h5 _ ?_)
  unfold Sp.long
  rw [Bool.eq_iff_iff, beq_iff_eq, decide_eq_true_iff]
  constructor
  ·
   intro h; exact .inr h
  ·
   intro h; exact h.resolve_left h2
theorem sD_l0 (s : Sp) (hf : s.fit) (b : Bool) (x z d : Int) (hx : 0 ≤ x ∧ x ≤ 109572) (hd : d = 1 ∨ d = -1) (R : List Int × Int) : ∀ (f i : Nat) (acc : List Int), i + f = 1200 → acc.length = i →
  (match s.inn b x z d f i with | none => R = ([], 81) | some (l, e) => R = (s.a :: ordL b (cutL s.long e (acc ++ l)) ++ [s.b], 0)) → f ≠ 0 →
  Ev (fun q => sched_Dates.l0 q b x z d acc false (i : Int) s.a s.b s.n s.u s.st s.ro s.cv s.lag s.we s.l) R
 | 0, i, acc, h1, h2, h3, h4 => absurd rfl h4
 | f + 1, i, acc, h1, h2, h3, _ => by
  obtain ⟨p, hp, ht⟩ := sPoint s x (d * ((i : Int) + 1)) hx hf
  have c1 : (i : Int) < 1201 := by omega
  have hw1 : wrap64 ((i : Int) + 1) = (i : Int) + 1 := w64 (by omega) (by omega)
  have hw2 : wrap64 (d * ((i : Int) + 1)) = d * ((i : Int) + 1) := by
   rcases hd with rfl | rfl <;> exact w64 (by omega) (by omega)
  have hs : ∀ q, sched_Dates.l0 (q + 1) b x z d acc false (i : Int) s.a s.b s.n s.u s.st s.ro s.cv s.lag s.we s.l = _ := fun q => by rw [sched_Dates.l0, if_pos c1, hw1, hw2]
  refine Ev.step hs (Ev.bind hp ?_)
  clear hs
  rw [Sp.inn] at h3
  cases ho : s.pt x (d * ((i : Int) + 1)) with
  | none =>
   rw [ho] at h3 ht
   simp only at h3
   have hpf : p.2 = false := ht
   rw [List.append_nil] at h3
   rw [h3]
   refine Ev.congr (fun q => if_neg (by rw [hpf]; decide)) (sD_j4 s b false acc (by omega))
  | some n =>
   rw [ho] at h3 ht
   obtain rfl : p = (n, true) := ht
   refine Ev.congr (fun q => if_pos rfl) ?_
   simp only at h3
   by_cases hz : n = z
   ·
    rw [if_pos hz] at h3
    simp only at h3
    rw [List.append_nil] at h3
    rw [h3]
    exact Ev.congr (fun q => if_pos hz) (sD_j4 s b true acc (by omega))
   ·
    rw [if_neg hz] at h3
    refine Ev.congr (fun q => if_neg hz) ?_
    have hj3 : ∀ t : Bool, (t = true ↔ (if b = true then n < z else n > z)) → Ev (fun q => sched_Dates.j3 q b x z d acc false (i : Int) n (i : Int) t s.a s.b s.n s.u s.st s.ro s.cv s.lag s.we s.l) R := by
     intro t htt
     cases t with
     | true =>
      rw [if_pos (htt.1 rfl)] at h3
      simp only at h3
      rw [List.append_nil] at h3
      rw [h3]
      exact Ev.step (fun q => by rw [sched_Dates.j3, if_pos rfl]) (sD_j4 s b false acc (by omega))
     | false =>
      rw [if_neg (fun h => by have := htt.2 h; cases this)] at h3
      have hw3 : wrap64 ((i : Int) + 2) = (i : Int) + 2 := w64 (by omega) (by omega)
      by_cases c5 : 1200 < (i : Int) + 2
      ·
       rw [if_pos c5] at h3
       simp only at h3
       rw [h3]
       exact Ev.step (f := fun _ => some (([] : List Int), (81 : Int))) (fun q => by rw [sched_Dates.j3, if_neg (by decide), hw3, if_pos c5]) (Ev.now _)
      ·
       rw [if_neg c5] at h3
       have c6 : acc.length < 17592186044416 := by omega
       have hw4 : wrap64 ((i : Int) + 1) = ((i + 1 : Nat) : Int) := by rw [hw1]; push_cast; rfl
       refine Ev.step (fun q => by rw [sched_Dates.j3, if_neg (by decide), hw3, if_neg c5, if_pos c6, hw4]) (sD_l0 s hf b x z d hx hd R f (i + 1) (acc ++ [n]) (by omega) (by rw [List.length_append, h2]; rfl) ?_ (by omega))
       cases hi : s.inn b x z d f (i + 1) with
       | none => rw [hi] at h3; exact h3
       | some le => rw [hi] at h3; simpa using h3
    cases b with
    | true =>
     refine Ev.congr (fun q => if_pos rfl) (ev_ite (fun c => hj3 true (by simp [c])) (fun c => hj3 false (by rw [if_pos rfl]; exact ⟨fun h => (by cases h), fun h => absurd h c⟩)))
    | false =>
     exact Ev.congr (fun q => if_neg (by decide)) (hj3 _ (by simp))
theorem sDates (s : Sp) (hw : wfL s.l) : Ev (fun q => sched_Dates.f q s.a s.b s.n s.u s.st s.ro s.cv s.lag s.we s.l) s.dates := by
 refine Ev.congr (fun q => by unfold sched_Dates.f; rfl) (Ev.bind (sCheck s hw) ?_)
 unfold Sp.dates
 by_cases hc : s.chk = 0
 ·
  rw [if_pos hc]
  obtain ⟨hd, hf, _⟩ := chk_ok hc
  have hst := hf.2.2.2.1
  have hj : ∀ (b : Bool), b = s.back → Ev (fun q => sched_Dates.j0 q b s.a s.b s.n s.u s.st s.ro s.cv s.lag s.we s.l) (match (if s.back = true then s.inn true s.b s.a (-1) 1200 0 else s.inn false s.a s.b 1 1200 0) with | none => ([], 81) | some (l, e) => (s.out l e, 0)) := by
   intro b hb
   unfold Sp.out
   rw [← hb]
   cases b with
   | true =>
    rw [if_pos rfl]
    refine Ev.step (fun q => by rw [sched_Dates.j0, if_pos rfl]) (Ev.step (fun q => by rw [sched_Dates.j1]; rfl) (sD_l0 s hf true s.b s.a (-1) hd.2 (.inr rfl) _ 1200 0 [] rfl rfl ?_ (by decide)))
    cases s.inn true s.b s.a (-1) 1200 0 <;> rfl
   | false =>
    rw [if_neg (by decide)]
    refine Ev.step (fun q => by rw [sched_Dates.j0, if_neg (by decide)]) (Ev.step (fun q => by rw [sched_Dates.j1]; rfl) (sD_l0 s hf false s.a s.b 1 hd.1 (.inl rfl) _ 1200 0 [] rfl rfl ?_ (by decide)))
    cases s.inn false s.a s.b 1 1200 0 <;> rfl
  refine Ev.congr (fun q => if_pos hc) (ev_ite (fun h1 => hj true (by unfold Sp.back; rw [decide_eq_true (by omega)])) (fun h1 => hj _ ?_))
  unfold Sp.back
  rw [Bool.eq_iff_iff, beq_iff_eq, decide_eq_true_iff]; omega
 ·
  rw [if_neg hc]
  exact Ev.congr (fun q => if_neg hc) (Ev.now _)
end Go.Proofs.Ytoncignjcgjhhaa.S
namespace Go.Proofs.Ytoncignjcgjhhaa.S
open Go.RowKit Go.Proofs.YtoncignjcgjhhaaW.PrintWords Go.Proofs.YtoncignjcgjhhaaW.PrintLast Go.Proofs.YtoncignjcgjhhaaW.PrintMore
open Go.Proofs.Ytoncignjcgjhhaa.Q
open Go.Proofs.Ytoncignjcgjhhaa.L (w64 td tm tm0)
def Sp.inner (s : Sp) : Option (List Int × Bool) := if s.back = true then s.inn true s.b s.a (-1) 1200 0 else s.inn false s.a s.b 1 1200 0
theorem inn_get (s : Sp) (b : Bool) (x z d : Int) : ∀ (f i : Nat) (p : List Int × Bool), s.inn b x z d f i = some p → p.1.length ≤ f ∧ ∀ (j : Nat) (h : j < p.1.length), s.pt x (d * (((i + j : Nat) : Int) + 1)) = some p.1[j]
 | 0, i, p, h => by cases h
 | f + 1, i, p, h => by
  have hnil : ∀ e : Bool, p = (([] : List Int), e) → p.1.length ≤ f + 1 ∧ ∀ (j : Nat) (h : j < p.1.length), s.pt x (d * (((i + j : Nat) : Int) + 1)) = some p.1[j] := by
   intro e he; subst he; exact ⟨Nat.zero_le _, fun j h => absurd h (Nat.not_lt_zero _)⟩
  rw [Sp.inn] at h
  cases ho : s.pt x (d * ((i : Int) + 1)) with
  | none => rw [ho] at h; simp only [Option.some.injEq] at h; exact hnil _ h.symm
  | some n =>
   rw [ho] at h
   simp only at h
   by_cases c1 : n = z
   ·
    rw [if_pos c1] at h; simp only [Option.some.injEq] at h; exact hnil _ h.symm
   ·
    rw [if_neg c1] at h
    by_cases c2 : (if b = true then n < z else n > z)
    ·
     rw [if_pos c2] at h; simp only [Option.some.injEq] at h; exact hnil _ h.symm
    ·
     rw [if_neg c2] at h
     by_cases c3 : 1200 < (i : Int) + 2
     ·
      rw [if_pos c3] at h; cases h
     ·
      rw [if_neg c3] at h
      obtain ⟨q, hq, rfl⟩ := Option.map_eq_some_iff.1 h
      obtain ⟨hl, hg⟩ := inn_get s b x z d f (i + 1) q hq
      refine ⟨by simp only [List.length_cons]; omega, fun j hj => ?_⟩
      cases j with
      | zero => simpa using ho
      | succ j =>
       have := hg j (by simpa using hj)
       rw [show i + (j + 1) = i + 1 + j by omega, this]
       rfl
theorem dates_ok {s : Sp} (h : s.dates.2 = 0) : s.chk = 0 ∧ ∃ l e, s.inner = some (l, e) ∧ s.dates = (s.out l e, 0) := by
 unfold Sp.dates at h
 by_cases hc : s.chk = 0
 ·
  refine ⟨hc, ?_⟩
  rw [if_pos hc] at h
  unfold Sp.dates
  rw [if_pos hc]
  show ∃ l e, s.inner = some (l, e) ∧ (match s.inner with | none => (([] : List Int), (81 : Int)) | some (l, e) => (s.out l e, 0)) = (s.out l e, 0)
  have h' : (match s.inner with | none => (([] : List Int), (81 : Int)) | some (l, e) => (s.out l e, 0)).2 = 0 := h
  cases hi : s.inner with
  | none => rw [hi] at h'; exact absurd (show (81 : Int) = 0 from h') (by decide)
  | some p => exact ⟨p.1, p.2, rfl, rfl⟩
 ·
  rw [if_neg hc] at h
  exact absurd h hc
theorem inner_pt {s : Sp} {l : List Int} {e : Bool} (h : s.inner = some (l, e)) : l.length ≤ 1200 ∧ ∀ (j : Nat) (hj : j < l.length), (if s.back = true then s.pt s.b (-((j : Int) + 1)) else s.pt s.a ((j : Int) + 1)) = some l[j] := by
 unfold Sp.inner at h
 cases hb : s.back with
 | true =>
  rw [hb, if_pos rfl] at h
  obtain ⟨h1, h2⟩ := inn_get s _ _ _ _ _ _ _ h
  refine ⟨h1, fun j hj => ?_⟩
  rw [if_pos rfl]
  have := h2 j hj
  rw [show (-1 : Int) * (((0 + j : Nat) : Int) + 1) = -((j : Int) + 1) by push_cast; omega] at this
  exact this
 | false =>
  rw [hb, if_neg (by decide)] at h
  obtain ⟨h1, h2⟩ := inn_get s _ _ _ _ _ _ _ h
  refine ⟨h1, fun j hj => ?_⟩
  rw [if_neg (by decide)]
  have := h2 j hj
  rw [show (1 : Int) * (((0 + j : Nat) : Int) + 1) = (j : Int) + 1 by push_cast; omega] at this
  exact this
theorem out_len (s : Sp) (l : List Int) (e : Bool) : (s.out l e).length = (cutL s.long e l).length + 2 := by
  unfold Sp.out; rw [List.length_append, List.length_cons, ord_len]; rfl
theorem dates_two {s : Sp} (h : s.dates.2 = 0) : 2 ≤ s.dates.1.length ∧ s.dates.1.length ≤ 1202 := by
 obtain ⟨_, l, e, hi, hd⟩ := dates_ok h
 have h1 := (inner_pt hi).1
 have h2 := cut_len s.long e l;have h3 := out_len s l e
 rw [hd]
 show 2 ≤ (s.out l e).length ∧ (s.out l e).length ≤ 1202
 omega
end Go.Proofs.Ytoncignjcgjhhaa.S
namespace Go.Proofs.Ytoncignjcgjhhaa.Q
open Go.RowKit Go.Proofs.YtoncignjcgjhhaaW.PrintWords Go.Proofs.YtoncignjcgjhhaaW.PrintLast Go.Proofs.YtoncignjcgjhhaaW.PrintMore
attribute [local go_sem] max2_int min2_int max_two min_two max_three min_three max_four min_four   -- for this text's walks alone
def cal_Adjust.f (a0_0 : Int) (l0_1 : List S63) (a1 a2 : Int) : Option (Int × Int) := if wfL l0_1 then some (Go.Proofs.Ytoncignjcgjhhaa.M.Adjust a0_0 (l0_1.map Go.Proofs.Ytoncignjcgjhhaa.H.ru) a1 a2) else none
theorem cal_Adjust.calls (a0_0 : Int) (A0_1 : Option Addr) (c0_1 : Nat) (l0_1 : List (S63)) (a1 a2 r1 r2 : Int) (w : World) (hr0_1 : Kd.C k63 w A0_1 l0_1.length l0_1) (hc0_1 : l0_1.length ≤ c0_1) (h : cal_Adjust.f a0_0 l0_1 a1 a2 = some (r1, r2)) :
  Calls Try.prog 38 #[.agg #[.int .i64 a0_0, .slice A0_1 l0_1.length c0_1], .int .i64 a1, .int .i64 a2] w fun e w' => e = .returned (.tuple #[.int .i64 r1, .int .i64 r2]) ∧ Below w.heap.size w w' := by
 unfold cal_Adjust.f at h
 split at h
 ·
  rename_i hc
  have e := Option.some.inj h
  have c := Go.Proofs.Ytoncignjcgjhhaa.H.Adjust_calls a0_0 A0_1 c0_1 l0_1 a1 a2 w hr0_1 (wfL_mem hc)
  rw [e] at c
  exact c
 ·
  cases h
end Go.Proofs.Ytoncignjcgjhhaa.Q
namespace Go.Proofs.Ytoncignjcgjhhaa.Q
open Go.RowKit Go.Proofs.YtoncignjcgjhhaaW.PrintWords Go.Proofs.YtoncignjcgjhhaaW.PrintLast Go.Proofs.YtoncignjcgjhhaaW.PrintMore
attribute [local go_sem] max2_int min2_int max_two min_two max_three min_three max_four min_four   -- for this text's walks alone
def cal_Add.f (a0_0 : Int) (l0_1 : List S63) (a1 a2 : Int) : Option (Int × Int) := if wfL l0_1 ∧ Go.Proofs.Ytoncignjcgjhhaa.L.i64 a2 then some (Go.Proofs.Ytoncignjcgjhhaa.M.Add a0_0 (l0_1.map Go.Proofs.Ytoncignjcgjhhaa.H.ru) a1 a2) else none
theorem cal_Add.calls (a0_0 : Int) (A0_1 : Option Addr) (c0_1 : Nat) (l0_1 : List (S63)) (a1 a2 r1 r2 : Int) (w : World) (hr0_1 : Kd.C k63 w A0_1 l0_1.length l0_1) (hc0_1 : l0_1.length ≤ c0_1) (h : cal_Add.f a0_0 l0_1 a1 a2 = some (r1, r2)) :
  Calls Try.prog 40 #[.agg #[.int .i64 a0_0, .slice A0_1 l0_1.length c0_1], .int .i64 a1, .int .i64 a2] w fun e w' => e = .returned (.tuple #[.int .i64 r1, .int .i64 r2]) ∧ Below w.heap.size w w' := by
 unfold cal_Add.f at h
 split at h
 ·
  rename_i hc
  have e := Option.some.inj h
  have c := Go.Proofs.Ytoncignjcgjhhaa.H.Add_calls a0_0 A0_1 c0_1 l0_1 a1 a2 w hr0_1 (wfL_mem hc.1) hc.2
  rw [e] at c
  exact c
 ·
  cases h
end Go.Proofs.Ytoncignjcgjhhaa.Q
