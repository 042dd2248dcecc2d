/- The statement of a schedule's ends: dates rise from the start to the end, and periods follow one another. Condition: the rules' numbers are of 64 bits. -/
import Derived.Test.YtoncignjcgjhhaaEGK
import Derived.Test.YtoncignjcgjhhaaEQSchedEnds
set_option linter.unusedVariables false
set_option linter.unusedSimpArgs false
namespace Go.Proofs.Ytoncignjcgjhhaa.M
theorem nextF_err (we : Int) (l : List Rul) (d : Int) : ∀ (f : Nat) (n : Int), (nextF we l d f n).2 = 0 ∨ (nextF we l d f n).2 = 51
 | 0, n => .inr rfl
 | f + 1, n => by
  unfold nextF
  split
  ·
   split
   ·
    exact .inl rfl
   ·
    exact nextF_err we l d f (n + d)
  ·
   exact .inr rfl
theorem nextF_ge (we : Int) (l : List Rul) : ∀ (f : Nat) (n : Int), (nextF we l 1 f n).2 = 0 → n ≤ (nextF we l 1 f n).1
 | 0, n, h => by exact absurd (show (51 : Int) = 0 from h) (by decide)
 | f + 1, n, h => by
  unfold nextF at h ⊢
  split
  ·
   split
   ·
    exact Int.le_refl _
   ·
    rename_i h1 h2
    rw [if_pos h1, if_neg h2] at h
    have := nextF_ge we l f (n + 1) h
    omega
  ·
   rename_i h1
   rw [if_neg h1] at h
   exact absurd (show (51 : Int) = 0 from h) (by decide)
theorem addF_err (we : Int) (l : List Rul) (d : Int) : ∀ (f : Nat) (n k : Int), (addF we l d f n k).2 = 0 ∨ (addF we l d f n k).2 = 51
 | 0, n, k => .inr rfl
 | f + 1, n, k => by
  unfold addF
  split
  ·
   exact .inl rfl
  ·
   split
   ·
    exact addF_err we l d f _ _
   ·
    exact .inr rfl
theorem addF_ge (we : Int) (l : List Rul) : ∀ (f : Nat) (n k : Int), (addF we l 1 f n k).2 = 0 → n ≤ (addF we l 1 f n k).1
 | 0, n, k, h => by exact absurd (show (51 : Int) = 0 from h) (by decide)
 | f + 1, n, k, h => by
  unfold addF at h ⊢
  split
  ·
   exact Int.le_refl _
  ·
   rename_i h1
   rw [if_neg h1] at h
   split
   ·
    rename_i h2
    rw [if_pos h2] at h
    have h3 := addF_ge we l f _ _ h;have h4 := nextF_ge we l _ _ h2
    unfold next at h3 ⊢
    omega
   ·
    rename_i h2
    rw [if_neg h2] at h
    exact absurd (show (51 : Int) = 0 from h) (by decide)
theorem Add_up {we : Int} {l : List Rul} {n k : Int} (hk : 0 < k) (h : (Add we l n k).2 = 0) : n < (Add we l n k).1 := by
 unfold Add at h ⊢
 by_cases hc : (chk we l).1 = 0
 ·
  rw [if_pos hc] at h ⊢
  by_cases hd : isDay n
  ·
   rw [if_pos hd, if_neg (by omega), if_neg (by omega)] at h ⊢
   unfold addF at h ⊢
   rw [if_neg (by omega)] at h ⊢
   by_cases h2 : (next we l (n + 1) 1).2 = 0
   ·
    rw [if_pos h2] at h ⊢
    have h3 := addF_ge we l _ _ _ h;have h4 := nextF_ge we l _ _ h2
    unfold next at h3 ⊢
    omega
   ·
    rw [if_neg h2] at h; exact absurd (show (51 : Int) = 0 from h) (by decide)
  ·
   rw [if_neg hd] at h; exact absurd (show (51 : Int) = 0 from h) (by decide)
 ·
  rw [if_neg hc] at h; exact absurd h hc
theorem Add_err {we : Int} {l : List Rul} (hc : (chk we l).1 = 0) (n k : Int) : (Add we l n k).2 = 0 ∨ (Add we l n k).2 = 51 := by
 unfold Add
 rw [if_pos hc]
 split
 ·
  split
  ·
   exact nextF_err we l _ _ _
  ·
   exact addF_err we l _ _ _ _
 ·
  exact .inr rfl
theorem Adjust_err {we : Int} {l : List Rul} (hc : (chk we l).1 = 0) (n w : Int) (hw : 0 ≤ w ∧ w ≤ 4) : (Adjust we l n w).2 = 0 ∨ (Adjust we l n w).2 = 51 := by
 have hk : ∀ d, (kept we l n d).2 = 0 ∨ (kept we l n d).2 = 51 := by
  intro d
  unfold kept
  split <;> exact nextF_err we l _ _ _
 unfold Adjust
 rw [if_pos hc, if_neg (by omega)]
 split
 ·
  split
  ·
   exact nextF_err we l _ _ _
  ·
   split
   ·
    exact nextF_err we l _ _ _
   ·
    split
    ·
     exact hk _
    ·
     split
     ·
      exact hk _
     ·
      exact .inl rfl
 ·
  exact .inr rfl
theorem Adjust_none {we : Int} {l : List Rul} {n : Int} (h : (Adjust we l n 0).2 = 0) : (Adjust we l n 0).1 = n := by
 unfold Adjust at h ⊢
 by_cases hc : (chk we l).1 = 0
 ·
  rw [if_pos hc, if_neg (by decide)] at h ⊢
  by_cases hd : isDay n
  ·
   rw [if_pos hd, if_neg (by decide), if_neg (by decide), if_neg (by decide), if_neg (by decide)]
  ·
   rw [if_neg hd] at h; exact absurd (show (51 : Int) = 0 from h) (by decide)
 ·
  rw [if_neg hc] at h; exact absurd h hc
end Go.Proofs.Ytoncignjcgjhhaa.M
namespace Go.Proofs.Ytoncignjcgjhhaa.S
open Go.RowKit Go.Proofs.YtoncignjcgjhhaaW.PrintWords Go.Proofs.YtoncignjcgjhhaaW.PrintLast Go.Proofs.YtoncignjcgjhhaaW.PrintMore
open Go.Proofs.Ytoncignjcgjhhaa.Q
open Go.Proofs.Ytoncignjcgjhhaa.L (w64 td tm tm0)
theorem perF_ok (s : Sp) (l : List Int) : ∀ (f i : Nat) (acc : List S81), (s.perF l f i acc).2 = 0 → (s.perF l f i acc).1 = acc ++ (List.range' i f).map (fun (j : Nat) => (s.per1 (rd l (j : Int)) (rd l ((j + 1 : Nat) : Int))).1) ∧ ∀ j, i ≤ j → j < i + f → (s.per1 (rd l (j : Int)) (rd l ((j + 1 : Nat) : Int))).2 = 0
 | 0, i, acc, h => by
  refine ⟨by rw [Sp.perF]; simp, fun j h1 h2 => by omega⟩
 | f + 1, i, acc, h => by
  rw [Sp.perF] at h ⊢
  by_cases c : (s.per1 (rd l (i : Int)) (rd l ((i + 1 : Nat) : Int))).2 = 0
  ·
   rw [if_pos c] at h ⊢
   obtain ⟨h1, h2⟩ := perF_ok s l f (i + 1) _ h
   refine ⟨?_, fun j g1 g2 => ?_⟩
   ·
    rw [h1, List.range'_succ, List.map_cons, List.append_assoc]; rfl
   ·
    by_cases hj : j = i
    ·
     rw [hj]; exact c
    ·
     exact h2 j (by omega) (by omega)
  ·
   rw [if_neg c] at h; exact absurd h c
theorem per1_err {s : Sp} (hc : ck s.we s.l = 0) (hcv : 0 ≤ s.cv ∧ s.cv ≤ 4) (x y : Int) : (s.per1 x y).2 = 0 ∨ (s.per1 x y).2 = 51 := by
 have ha := fun x => M.Adjust_err (n := x) (w := s.cv) (show (M.chk s.we (s.l.map H.ru)).1 = 0 from hc) (hw := hcv)
 have hd := fun x => M.Add_err (n := x) (k := s.lag) (show (M.chk s.we (s.l.map H.ru)).1 = 0 from hc)
 unfold Sp.per1
 split
 ·
  split
  ·
   split
   ·
    split
    ·
     exact .inl rfl
    ·
     exact hd _
   ·
    exact .inl rfl
  ·
   exact ha _
 ·
  exact ha _
theorem perF_err {s : Sp} (hc : ck s.we s.l = 0) (hcv : 0 ≤ s.cv ∧ s.cv ≤ 4) (l : List Int) : ∀ (f i : Nat) (acc : List S81), (s.perF l f i acc).2 = 0 ∨ s.perF l f i acc = ([], 51)
 | 0, i, acc => .inl (by rw [Sp.perF])
 | f + 1, i, acc => by
  rw [Sp.perF]
  split
  ·
   exact perF_err hc hcv l f (i + 1) _
  ·
   rename_i h
   rcases per1_err hc hcv (rd l (i : Int)) (rd l ((i + 1 : Nat) : Int)) with g | g
   ·
    exact absurd g h
   ·
    exact .inr (by rw [g])
theorem per1_ok {s : Sp} {x y : Int} (h : (s.per1 x y).2 = 0) : (s.per1 x y).1.f0 = x ∧ (s.per1 x y).1.f1 = y ∧ (s.per1 x y).1.f2 = (s.adj x).1 ∧ (s.per1 x y).1.f3 = (s.adj y).1 ∧ (s.lag = 0 → (s.per1 x y).1.f4 = (s.per1 x y).1.f3) ∧ (s.lag > 0 → (s.per1 x y).1.f3 < (s.per1 x y).1.f4) ∧ (s.cv = 0 → (s.per1 x y).1.f2 = x ∧ (s.per1 x y).1.f3 = y) := by
 unfold Sp.per1 at h ⊢
 by_cases e1 : (s.adj x).2 = 0
 ·
  rw [if_pos e1] at h ⊢
  by_cases e2 : (s.adj y).2 = 0
  ·
   rw [if_pos e2] at h ⊢
   have hcv : s.cv = 0 → (s.adj x).1 = x ∧ (s.adj y).1 = y := by
    intro hz
    unfold Sp.adj at e1 e2 ⊢
    rw [hz] at e1 e2 ⊢
    exact ⟨M.Adjust_none e1, M.Adjust_none e2⟩
   by_cases e3 : s.lag > 0
   ·
    rw [if_pos e3] at h ⊢
    by_cases e4 : (s.add (s.adj y).1).2 = 0
    ·
     rw [if_pos e4]
     exact ⟨rfl, rfl, rfl, rfl, fun h0 => by omega, fun _ => M.Add_up e3 e4, hcv⟩
    ·
     rw [if_neg e4] at h; exact absurd h e4
   ·
    rw [if_neg e3]
    exact ⟨rfl, rfl, rfl, rfl, fun _ => rfl, fun h0 => absurd h0 e3, hcv⟩
  ·
   rw [if_neg e2] at h; exact absurd h e2
 ·
  rw [if_neg e1] at h; exact absurd h e1
theorem rdT (l : List S81) (i : Nat) (h : i < l.length) : rd_T81 l (i : Int) = l[i] := by simp [rd_T81, h]
theorem Ends_l1 (s : Sp) (l : List Int) (p : List S81) (hl : l.length ≤ 1202) (h2 : 2 ≤ l.length) (hr : ∀ i : Nat, i + 1 < l.length → rd l (i : Int) < rd l ((i + 1 : Nat) : Int))
  (hp : p = (List.range' 0 (l.length - 1)).map (fun (j : Nat) => (s.per1 (rd l (j : Int)) (rd l ((j + 1 : Nat) : Int))).1)) (hok : ∀ j, j < l.length - 1 → (s.per1 (rd l (j : Int)) (rd l ((j + 1 : Nat) : Int))).2 = 0) :
  ∀ (f i : Nat), l.length - 1 - i = f → i ≤ l.length - 1 → Ev (fun q => tenorlaw8_SchedEnds.l1 q l p (i : Int) s.a s.b s.n s.u s.st s.ro s.cv s.lag s.we s.l) true
 | 0, i, hf, hi => by
  have hpl : p.length = l.length - 1 := by rw [hp]; simp
  have ha : Ev (fun k => (tenorlaw8_awake.f k).bind fun t => some t) true := Ev.bind awake8 (Ev.now _)
  exact Ev.step (fun q => by rw [tenorlaw8_SchedEnds.l1, if_neg (by omega)]) ha
 | f + 1, i, hf, hi => by
  have hpl : p.length = l.length - 1 := by rw [hp]; simp
  have hget : ∀ j : Nat, j < l.length - 1 → rd_T81 p (j : Int) = (s.per1 (rd l (j : Int)) (rd l ((j + 1 : Nat) : Int))).1 := by
   intro j hj
   rw [rdT p j (by omega)]
   subst hp
   simp
  have hn := Ends_l1 s l p hl h2 hr hp hok f (i + 1) (by omega) (by omega)
  obtain ⟨g0, g1, g2, g3, g4, g5, g6⟩ := per1_ok (hok i (by omega))
  rw [← hget i (by omega)] at g0 g1 g2 g3 g4 g5 g6
  have hrise := hr i (by omega)
  have hcv : (rd_T81 p (i : Int)).f2 > (rd_T81 p (i : Int)).f3 → ¬ s.cv = 0 := fun h hz => by have := g6 hz; omega
  have c1 : (i : Int) < (p.length : Int) := by omega
  have c0 : (0 : Int) ≤ (i : Int) := by omega
  have c2 : (i : Int) < (l.length : Int) := by omega
  have c3 : (0 : Int) ≤ ((i + 1 : Nat) : Int) := by omega
  have c4 : ((i + 1 : Nat) : Int) < (l.length : Int) := by omega
  have hprev : (i : Int) > 0 → 0 ≤ (i : Int) - 1 ∧ (i : Int) - 1 < (p.length : Int) ∧ (rd_T81 p (i : Int)).f2 = (rd_T81 p ((i : Int) - 1)).f3 := by
   intro h
   refine ⟨by omega, by omega, ?_⟩
   obtain ⟨j, rfl⟩ : ∃ j, i = j + 1 := ⟨i - 1, by omega⟩
   have k3 := (per1_ok (hok j (by omega))).2.2.2.1
   rw [← hget j (by omega)] at k3
   rw [show ((j + 1 : Nat) : Int) - 1 = (j : Int) by omega, k3, g2]
  have hw2 : wrap64 ((i : Int) - 1) = (i : Int) - 1 := w64 (by omega) (by omega)
  have hw1 : wrap64 ((i : Int) + 1) = ((i + 1 : Nat) : Int) := by rw [w64 (by omega) (by omega)]; push_cast; rfl
  refine Ev.step (fun q => by rw [tenorlaw8_SchedEnds.l1, if_pos c1, if_pos c0, if_pos c2, if_pos g0, hw1, if_pos c3, if_pos c4, if_pos g1, hw2]) ?_
  clear hw1 hw2
  refine ev_ite (fun hi0 => ?_) (fun hi0 => ?_)
  ·
   obtain ⟨d1, d2, d3⟩ := hprev hi0
   refine Ev.congr (fun q => by rw [if_pos d1, if_pos d2, if_pos d3]) ?_
   refine ev_ite (fun x1 => ev_ite (fun x2 => absurd x2 (hcv x1)) (fun _ => ?_)) (fun _ => ?_)
   all_goals refine ev_ite (fun x3 => ev_ite (fun _ => ev_ite (fun x5 => absurd x3 (by omega)) (fun _ => hn)) (fun x4 => absurd (g4 x3) x4)) (fun x3 => ev_ite (fun x5 => ev_ite (fun x6 => absurd x6 (by have := g5 x5; omega)) (fun _ => hn)) (fun _ => hn))
  ·
   refine ev_ite (fun x1 => ev_ite (fun x2 => absurd x2 (hcv x1)) (fun _ => ?_)) (fun _ => ?_)
   all_goals refine ev_ite (fun x3 => ev_ite (fun _ => ev_ite (fun x5 => absurd x3 (by omega)) (fun _ => hn)) (fun x4 => absurd (g4 x3) x4)) (fun x3 => ev_ite (fun x5 => ev_ite (fun x6 => absurd x6 (by have := g5 x5; omega)) (fun _ => hn)) (fun _ => hn))
theorem Ends_l0 (s : Sp) (hw : wfL s.l) (h0 : s.dates.2 = 0) : ∀ (f i : Nat), s.dates.1.length - i = f → 1 ≤ i → i ≤ s.dates.1.length → Ev (fun q => tenorlaw8_SchedEnds.l0 q s.dates.1 (i : Int) s.a s.b s.n s.u s.st s.ro s.cv s.lag s.we s.l) true
 | 0, i, hf, h1, hi => by
  have ha : Ev (fun k => (tenorlaw8_awake.f k).bind fun t => some t) true := Ev.bind awake8 (Ev.now _)
  obtain ⟨h2, h3⟩ := dates_two h0
  obtain ⟨hc, _⟩ := dates_ok h0
  have hck := (chk_ok hc).2.2
  have hcv := (chk_ok hc).2.1.2.2.2.2.2.2.1
  have hw1 : wrap64 ((s.dates.1.length : Int) - 1) = (s.dates.1.length : Int) - 1 := w64 (by omega) (by omega)
  refine Ev.step (fun q => by rw [tenorlaw8_SchedEnds.l0, if_neg (by omega), hw1]) (Ev.bind (sPeriods s hw) ?_)
  clear hw1
  have hpe : s.periods = s.perF s.dates.1 (s.dates.1.length - 1) 0 [] := by unfold Sp.periods; rw [if_pos h0]
  rw [hpe]
  refine ev_ite (fun e => ?_) (fun e => ?_)
  ·
   obtain ⟨g1, g2⟩ := perF_ok s _ _ _ _ e
   rw [List.nil_append] at g1
   have hlen : (((s.perF s.dates.1 (s.dates.1.length - 1) 0 []).1.length : Nat) : Int) = (s.dates.1.length : Int) - 1 := by rw [g1]; simp; omega
   refine Ev.congr (fun q => if_pos hlen) ?_
   exact Ends_l1 s s.dates.1 _ h3 h2 (dates_rise h0).2.2 g1 (fun j hj => g2 j (by omega) (by omega)) _ 0 rfl (by omega)
  ·
   rcases perF_err hck hcv s.dates.1 (s.dates.1.length - 1) 0 [] with g | g
   ·
    exact absurd g e
   ·
    rw [g]
    exact Ev.congr (fun q => by rw [if_pos rfl, if_pos (by rfl)]) ha
 | f + 1, i, hf, h1, hi => by
  obtain ⟨h2, h3⟩ := dates_two h0
  have hr := (dates_rise h0).2.2 (i - 1) (by omega)
  have hrec := Ends_l0 s hw h0 f (i + 1) (by omega) (by omega) (by omega)
  rw [show ((i - 1 + 1 : Nat) : Int) = (i : Int) by omega, show ((i - 1 : Nat) : Int) = (i : Int) - 1 by omega] at hr
  have c1 : (i : Int) < (s.dates.1.length : Int) := by omega
  have c0 : (0 : Int) ≤ (i : Int) := by omega
  have c2 : (0 : Int) ≤ (i : Int) - 1 := by omega
  have c3 : (i : Int) - 1 < (s.dates.1.length : Int) := by omega
  have c4 : ¬ rd s.dates.1 (i : Int) ≤ rd s.dates.1 ((i : Int) - 1) := by omega
  have hw2 : wrap64 ((i : Int) - 1) = (i : Int) - 1 := w64 (by omega) (by omega)
  have hw1 : wrap64 ((i : Int) + 1) = ((i + 1 : Nat) : Int) := by rw [w64 (by omega) (by omega)]; push_cast; rfl
  exact Ev.step (fun q => by rw [tenorlaw8_SchedEnds.l0, if_pos c1, if_pos c0, hw2, if_pos c2, if_pos c3, if_neg c4, hw1]) hrec
theorem small_tells (s : Sp) : ∃ t, Ev (fun q => tenorlaw8_small.f q s.a s.b s.n s.u s.st s.ro s.cv s.lag s.we s.l) t := by
 have hj : ∀ x, ∃ t, Ev (fun q => tenorlaw8_small.j0 q x s.a s.b s.n s.u s.st s.ro s.cv s.lag s.we s.l) t := by
  intro x
  have hex : ∃ t : Bool, ∀ q, tenorlaw8_small.j0 (q + 1) x s.a s.b s.n s.u s.st s.ro s.cv s.lag s.we s.l = some t := by
   simp only [tenorlaw8_small.j0]
   repeat' split
   all_goals exact ⟨_, fun _ => rfl⟩
  obtain ⟨t, ht⟩ := hex
  exact ⟨t, Ev.step ht (Ev.now _)⟩
 obtain ⟨t1, h1⟩ := hj true
 obtain ⟨t2, h2⟩ := hj (decide (s.a > s.b))
 unfold tenorlaw8_small.f
 repeat' split
 ·
  exact ⟨_, Ev.now _⟩
 all_goals first | exact ⟨_, h1⟩ | exact ⟨_, h2⟩
theorem SchedEnds (s : Sp) (hw : wfL s.l) : Ev (fun q => tenorlaw8_SchedEnds.f q s.a s.b s.n s.u s.st s.ro s.cv s.lag s.we s.l) true := by
 have ha : Ev (fun k => (tenorlaw8_awake.f k).bind fun t => some t) true := Ev.bind awake8 (Ev.now _)
 obtain ⟨t, ht⟩ := small_tells s
 refine Ev.congr (fun q => by unfold tenorlaw8_SchedEnds.f; rfl) (Ev.bind ht ?_)
 refine ev_ite (fun _ => Ev.bind (sDates s hw) ?_) (fun _ => ha)
 by_cases h0 : s.dates.2 = 0
 ·
  obtain ⟨h2, h3⟩ := dates_two h0
  obtain ⟨r1, r2, _⟩ := dates_rise h0
  have hrec := Ends_l0 s hw h0 (s.dates.1.length - 1) 1 rfl (by omega) (by omega)
  have c1 : ¬ (s.dates.1.length : Int) < 2 := by omega
  have c2 : 0 < (s.dates.1.length : Int) := by omega
  have c3 : 0 ≤ (s.dates.1.length : Int) - 1 := by omega
  have c4 : (s.dates.1.length : Int) - 1 < (s.dates.1.length : Int) := by omega
  by_cases c5 : (s.dates.1.length : Int) > 1201
  ·
   exfalso
   obtain ⟨_, l, e, hi, hd⟩ := dates_ok h0
   have := inner_len1 hi
   have h6 := out_len s l e;have h7 := cut_len s.long e l
   rw [hd] at c5
   have h8 : ((s.out l e).length : Int) > 1201 := c5
   omega
  ·
   have hw1 : wrap64 ((s.dates.1.length : Int) - 1) = (s.dates.1.length : Int) - 1 := w64 (by omega) (by omega)
   refine Ev.congr (fun q => by rw [if_pos h0, if_neg c1, if_pos c2, if_pos r1, hw1, if_pos c3, if_pos c4, if_pos r2, decide_eq_false c5]) ?_
   exact Ev.step (fun q => by rw [tenorlaw8_SchedEnds.j0, if_neg (by decide)]; rfl) hrec
 ·
  have he : s.dates.1 = [] := by
   unfold Sp.dates at h0 ⊢
   by_cases hc : s.chk = 0
   ·
    rw [if_pos hc] at h0 ⊢
    have key : ∀ o : Option (List Int × Bool), ¬ (match o with | none => (([] : List Int), (81 : Int)) | some (l, e) => (s.out l e, 0)).2 = 0 → (match o with | none => (([] : List Int), (81 : Int)) | some (l, e) => (s.out l e, 0)).1 = [] := by
     intro o h
     cases o with
     | none => rfl
     | some p => exact absurd rfl h
    exact key _ h0
   ·
    rw [if_neg hc]
  refine Ev.congr (fun q => if_neg h0) ?_
  rw [he]
  exact Ev.congr (fun q => if_pos (by rfl)) ha
theorem Ends_lag (s : Sp) (hw : wfL s.l) (k : Nat) (l : List Int) (h : sched_Dates.f k s.a s.b s.n s.u s.st s.ro s.cv s.lag s.we s.l = some (l, 0)) : 0 ≤ s.lag := by
 obtain ⟨k2, h2⟩ := (sDates s hw).rounds
 have e : s.dates = (l, 0) := by
  rcases Nat.le_total k k2 with hk | hk
  ·
   exact Option.some.inj (h2.symm.trans (at_rounds (sched_Dates.mono s.a s.b s.n s.u s.st s.ro s.cv s.lag s.we s.l) hk h))
  ·
   exact (Option.some.inj (h.symm.trans (at_rounds (sched_Dates.mono s.a s.b s.n s.u s.st s.ro s.cv s.lag s.we s.l) hk h2))).symm
 obtain ⟨hc, _⟩ := dates_ok (s := s) (by rw [e])
 exact (chk_ok hc).2.1.2.2.2.2.2.2.2.1
end Go.Proofs.Ytoncignjcgjhhaa.S
