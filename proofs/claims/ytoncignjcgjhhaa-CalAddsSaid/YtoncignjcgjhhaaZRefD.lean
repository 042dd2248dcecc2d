/- What the document's own calendar calls come to: the plain arithmetic. No condition but on the number of days to be added. -/
import Derived.Test.YtoncignjcgjhhaaZGM
import Derived.Test.YtoncignjcgjhhaaZQx51
import Derived.Test.YtoncignjcgjhhaaZGF
set_option linter.unusedVariables false
set_option linter.unusedSimpArgs false
namespace Go.Proofs.Ytoncignjcgjhhaa.R
open Go.RowKit Go.Proofs.YtoncignjcgjhhaaW.PrintWords Go.Proofs.YtoncignjcgjhhaaW.PrintLast Go.Proofs.YtoncignjcgjhhaaW.PrintMore
open Go.Proofs.Ytoncignjcgjhhaa.Q
open Go.Proofs.Ytoncignjcgjhhaa.L (w64 td tm tm0)

/-- What the search tells. -/
def sr (p : Int × Int) : Int × Bool := (p.1, decide (p.2 = 0))
theorem search_l0 {we : Int} {l : List S63} (h : (M.chk we (l.map H.ru)).1 = 0) (d : Int) (hd : d = 1 ∨ d = -1) : ∀ (f : Nat) (n : Int), -1 ≤ n → n ≤ 109573 → (d = 1 → 109573 - n < f) → (d = -1 → n + 1 < f) →
    Ev (fun k => tenorref6_search.l0 k n d we l) (sr (M.nextF we (l.map H.ru) d f n))
  | 0, n, a, b, c, e => by omega
  | f + 1, n, a, b, c, e => by
    unfold M.nextF
    by_cases hn : M.isDay n
    · have h0 := hn.1; have h1 := hn.2
      rw [if_pos hn]
      have hw : wrap64 (n + d) = n + d := w64 (by omega) (by omega)
      have hl0 : ∀ k, tenorref6_search.l0 (k + 1) n d we l = (tenorref6_open.f k we l n).bind fun t => if t = true then some (n, true) else tenorref6_search.l0 k (n + d) d we l := by
        intro k
        rw [tenorref6_search.l0, isDay, decide_eq_true hn, hw]; rfl
      refine Ev.step hl0 (Ev.bind (f := fun k t => if t = true then some (n, true) else tenorref6_search.l0 k (n + d) d we l) (open_ h n hn) ?_)
      by_cases ho : M.isOpen we (l.map H.ru) n = true
      · rw [if_pos ho]; exact Ev.congr (fun k => if_pos ho) (Ev.now _)
      · rw [if_neg ho]; exact Ev.congr (fun k => if_neg ho) (search_l0 h d hd f (n + d) (by omega) (by omega) (by omega) (by omega))
    · rw [if_neg hn]
      refine Ev.step (f := fun _ => some ((0 : Int), false)) (fun k => ?_) (Ev.now _)
      rw [tenorref6_search.l0, isDay, decide_eq_false hn]; rfl
theorem search {we : Int} {l : List S63} (h : (M.chk we (l.map H.ru)).1 = 0) (n d : Int) (hd : d = 1 ∨ d = -1) (h0 : -1 ≤ n) (h1 : n ≤ 109573) : Ev (fun k => tenorref6_search.f k we l n d) (sr (M.next we (l.map H.ru) n d)) :=
  search_l0 h d hd 109580 n h0 h1 (by omega) (by omega)

theorem month (n : Int) (h : M.isDay n) : Ev (fun k => tenorref6_month.f k n) (M.month n) := by
  have hc := Civil n
  rw [if_pos (show 0 ≤ n ∧ n ≤ 109572 from h)] at hc
  obtain ⟨⟨a, b, c, d, _, _⟩, _⟩ := M.civ_spec n h.1 h.2
  refine Ev.congr (fun k => rfl) (Ev.bind hc (Ev.congr (f := fun _ => some (M.month n)) (fun k => ?_) (Ev.now _)))
  simp only
  rw [w64 (x := 12 * M.civY n) (by omega) (by omega), w64 (by omega) (by omega)]
  rfl

/-- What is told of a found day. -/
theorem res_eq {p : Int × Int} (h : (p = (0, 51)) ∨ (p.2 = 0 ∧ M.isDay p.1)) : (if (sr p).2 = true then some ((sr p).1, (0 : Int)) else some (0, 51)) = some p := by
  obtain ⟨a, b⟩ := p
  rcases h with h | h
  · rw [h]; rfl
  · simp only at h; obtain ⟨rfl, _⟩ := h; rfl
theorem res_of (we : Int) (l : List M.Rul) (n d : Int) : (M.next we l n d = (0, 51)) ∨ ((M.next we l n d).2 = 0 ∧ M.isDay (M.next we l n d).1) := by
  rcases M.next_res we l n d with h | h
  · exact .inl h
  · exact .inr ⟨h.1, h.2.1⟩

theorem Adjust_j2 {we : Int} {l : List S63} (h : (M.chk we (l.map H.ru)).1 = 0) (n d : Int) (hd : d = 1 ∨ d = -1) (hn : M.isDay n) (p : Int × Int) (b : Bool) (hp : (p = (0, 51)) ∨ (p.2 = 0 ∧ M.isDay p.1)) :
    Ev (fun k => tenorref6_Adjust.j2 k n d (sr p).1 (sr p).2 b we l) (if b = true then M.next we (l.map H.ru) n (-d) else p) := by
  have h0 := hn.1; have h1 := hn.2
  have hw : wrap64 (-d) = -d := w64 (by omega) (by omega)
  cases b with
  | true =>
    refine Ev.step (fun k => ?_) (Ev.bind (f := fun _ (t : Int × Bool) => if t.2 = true then some (t.1, (0 : Int)) else some (0, 51)) (search h n (-d) (by omega) (by omega) (by omega)) (Ev.congr (fun k => res_eq (res_of _ _ _ _)) (Ev.now _)))
    rw [tenorref6_Adjust.j2, if_pos rfl, hw]
  | false =>
    refine Ev.step (f := fun _ => some p) (fun k => ?_) (Ev.now _)
    rw [tenorref6_Adjust.j2, if_neg (by decide)]
    exact res_eq hp

theorem kept_eq (we : Int) (l : List M.Rul) (n d : Int) : M.kept we l n d = if (if (M.next we l n d).2 = 0 then decide (M.month (M.next we l n d).1 ≠ M.month n) else true) = true then M.next we l n (-d) else M.next we l n d := by
  unfold M.kept
  by_cases h : (M.next we l n d).2 = 0
  · by_cases hm : M.month (M.next we l n d).1 = M.month n
    · rw [if_pos ⟨h, hm⟩, if_pos h, if_neg (by simp [hm])]
    · rw [if_neg (fun e => hm e.2), if_pos h, if_pos (by simp [hm])]
  · rw [if_neg (fun e => h e.1), if_neg h, if_pos rfl]

/-- The rest of an adjusting, by way. -/
theorem Adjust_j1 {we : Int} {l : List S63} (h : (M.chk we (l.map H.ru)).1 = 0) (n d way : Int) (hd : d = 1 ∨ d = -1) (hn : M.isDay n) :
    Ev (fun k => tenorref6_Adjust.j1 k n way d we l) (if way = 3 ∨ way = 4 then M.kept we (l.map H.ru) n d else M.next we (l.map H.ru) n d) := by
  have h0 := hn.1; have h1 := hn.2
  have hres := res_of we (l.map H.ru) n d
  refine Ev.step (fun k => by rw [tenorref6_Adjust.j1]) (Ev.bind (search h n d hd (by omega) (by omega)) ?_)
  have key : Ev (fun k => if (sr (M.next we (l.map H.ru) n d)).2 = true then ((tenorref6_month.f k (sr (M.next we (l.map H.ru) n d)).1).bind fun t => ((tenorref6_month.f k n).bind fun s => (tenorref6_Adjust.j2 k n d (sr (M.next we (l.map H.ru) n d)).1 (sr (M.next we (l.map H.ru) n d)).2 (t != s) we l))) else (tenorref6_Adjust.j2 k n d (sr (M.next we (l.map H.ru) n d)).1 (sr (M.next we (l.map H.ru) n d)).2 true we l)) (M.kept we (l.map H.ru) n d) := by
    rw [kept_eq]
    by_cases h2 : (M.next we (l.map H.ru) n d).2 = 0
    · have hday : M.isDay (M.next we (l.map H.ru) n d).1 := by
        rcases hres with e | e
        · rw [e] at h2; cases h2
        · exact e.2
      rw [if_pos h2]
      have hs : (sr (M.next we (l.map H.ru) n d)).2 = true := decide_eq_true h2
      refine Ev.congr (fun k => if_pos hs) (Ev.bind (f := fun k t => ((tenorref6_month.f k n).bind fun s => (tenorref6_Adjust.j2 k n d (sr (M.next we (l.map H.ru) n d)).1 (sr (M.next we (l.map H.ru) n d)).2 (t != s) we l))) (month _ hday) (Ev.bind (f := fun k s => tenorref6_Adjust.j2 k n d (sr (M.next we (l.map H.ru) n d)).1 (sr (M.next we (l.map H.ru) n d)).2 (M.month (M.next we (l.map H.ru) n d).1 != s) we l) (month n hn) ?_))
      have e : (M.month (M.next we (l.map H.ru) n d).1 != M.month n) = decide (M.month (M.next we (l.map H.ru) n d).1 ≠ M.month n) := by
        rw [Bool.eq_iff_iff, bne_iff_ne, decide_eq_true_eq]
      rw [e]
      exact Adjust_j2 h n d hd hn _ _ hres
    · have hs : ¬ (sr (M.next we (l.map H.ru) n d)).2 = true := by simp [sr, h2]
      rw [if_neg h2]
      exact Ev.congr (fun k => if_neg hs) (Adjust_j2 h n d hd hn _ true hres)
  by_cases h3 : way = 3
  · rw [if_pos (.inl h3)]
    exact Ev.congr (fun k => if_pos h3) key
  by_cases h4 : way = 4
  · rw [if_pos (.inr h4)]
    exact Ev.congr (fun k => by rw [if_neg h3, if_pos h4]) key
  · rw [if_neg (by omega)]
    have hj := Adjust_j2 h n d hd hn (M.next we (l.map H.ru) n d) false hres
    rw [if_neg (by decide)] at hj
    exact Ev.congr (fun k => by rw [if_neg h3, if_neg h4]) hj

theorem Adjust_j0 {we : Int} {l : List S63} (h : (M.chk we (l.map H.ru)).1 = 0) (n way : Int) (b : Bool) (hn : M.isDay n) :
    Ev (fun k => tenorref6_Adjust.j0 k n way 1 b we l) (if way = 3 ∨ way = 4 then M.kept we (l.map H.ru) n (if b = true then -1 else 1) else M.next we (l.map H.ru) n (if b = true then -1 else 1)) := by
  cases b with
  | true => rw [show (if true = true then (-1 : Int) else 1) = -1 from rfl]; exact Ev.step (fun k => by rw [tenorref6_Adjust.j0, if_pos rfl]) (Adjust_j1 h n (-1) way (.inr rfl) hn)
  | false => rw [show (if false = true then (-1 : Int) else 1) = 1 from rfl]; exact Ev.step (fun k => by rw [tenorref6_Adjust.j0, if_neg (by decide)]) (Adjust_j1 h n 1 way (.inl rfl) hn)

theorem Adjust (we : Int) (l : List S63) (n way : Int) : Ev (fun k => tenorref6_Adjust.f k we l n way) (M.Adjust we (l.map H.ru) n way) := by
  unfold M.Adjust
  refine Ev.congr (fun k => rfl) (Ev.bind (Check we l) ?_)
  by_cases hc : (M.chk we (l.map H.ru)).1 = 0
  · rw [if_pos hc]
    refine Ev.congr (fun k => by rw [if_pos hc, in_, Option.bind_some]) ?_
    by_cases hk : way < 0 ∨ way > 4
    · rw [if_pos hk]; exact Ev.congr (fun k => by rw [decide_eq_false (by omega)]; rfl) (Ev.now _)
    · rw [if_neg hk]
      refine Ev.congr (fun k => by rw [decide_eq_true (by omega), if_pos rfl, isDay, Option.bind_some]) ?_
      by_cases hd : M.isDay n
      · rw [if_pos hd]
        refine Ev.congr (fun k => by rw [decide_eq_true hd, if_pos rfl]) ?_
        by_cases w0 : way = 0
        · subst w0
          rw [if_neg (show ¬ ((0 : Int) = 1) by decide), if_neg (show ¬ ((0 : Int) = 2) by decide), if_neg (show ¬ ((0 : Int) = 3) by decide), if_neg (show ¬ ((0 : Int) = 4) by decide)]
          exact Ev.congr (fun k => if_pos rfl) (Ev.now _)
        refine Ev.congr (fun k => if_neg w0) ?_
        by_cases w2 : way = 2
        · subst w2
          have hj := Adjust_j0 hc n 2 true hd
          rw [if_neg (show ¬ ((2 : Int) = 3 ∨ (2 : Int) = 4) by omega), if_pos rfl] at hj
          rw [if_neg (show ¬ ((2 : Int) = 1) by decide), if_pos rfl]
          exact Ev.congr (fun k => if_pos rfl) hj
        refine Ev.congr (fun k => if_neg w2) ?_
        have hj := Adjust_j0 hc n way (way == 4) hd
        have hw : way = 1 ∨ way = 3 ∨ way = 4 := by omega
        rcases hw with rfl | rfl | rfl
        · rw [if_neg (show ¬ ((1 : Int) = 3 ∨ (1 : Int) = 4) by omega), if_neg (show ¬ (((1 : Int) == 4) = true) by decide)] at hj
          rw [if_pos rfl]; exact hj
        · rw [if_pos (show (3 : Int) = 3 ∨ (3 : Int) = 4 by omega), if_neg (show ¬ (((3 : Int) == 4) = true) by decide)] at hj
          rw [if_neg (by decide), if_neg (by decide), if_pos rfl]; exact hj
        · rw [if_pos (show (4 : Int) = 3 ∨ (4 : Int) = 4 by omega), if_pos (show ((4 : Int) == 4) = true by decide)] at hj
          rw [if_neg (by decide), if_neg (by decide), if_neg (by decide), if_pos rfl]; exact hj
      · rw [if_neg hd]; exact Ev.congr (fun k => by rw [decide_eq_false hd]; rfl) (Ev.now _)
  · rw [if_neg hc]; exact Ev.congr (fun k => by rw [if_neg hc]) (Ev.now _)

end Go.Proofs.Ytoncignjcgjhhaa.R
