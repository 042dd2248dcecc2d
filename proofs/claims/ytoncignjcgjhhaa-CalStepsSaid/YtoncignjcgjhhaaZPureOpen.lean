/- The statement of open days: what Adjust tells is open, on the right side, and no open day lies between. Condition: the rules' numbers are of 64 bits. -/
import Derived.Test.YtoncignjcgjhhaaZPureCal
import Derived.Test.YtoncignjcgjhhaaZQx55
import Derived.Test.YtoncignjcgjhhaaZGF
import Derived.Test.YtoncignjcgjhhaaZV
set_option linter.unusedVariables false
set_option linter.unusedSimpArgs false
namespace Go.Proofs.Ytoncignjcgjhhaa.M
theorem nextF_up (we : Int) (l : List Rul) : ∀ (f : Nat) (n : Int), (nextF we l 1 f n).2 = 0 → n ≤ (nextF we l 1 f n).1 ∧ ∀ i, n ≤ i → i < (nextF we l 1 f n).1 → isOpen we l i = false
  | 0, n, h => by simp [nextF] at h
  | f + 1, n, h => by
    unfold nextF at h ⊢
    by_cases hd : isDay n
    · rw [if_pos hd] at h ⊢
      by_cases ho : isOpen we l n = true
      · rw [if_pos ho]; exact ⟨Int.le_refl _, fun i a b => by simp only at b; omega⟩
      · rw [if_neg ho] at h ⊢
        obtain ⟨a, b⟩ := nextF_up we l f (n + 1) h
        refine ⟨by omega, fun i x y => ?_⟩
        by_cases e : i = n
        · rw [e]; exact Bool.eq_false_iff.2 ho
        · exact b i (by omega) y
    · rw [if_neg hd] at h; simp at h
theorem nextF_dn (we : Int) (l : List Rul) : ∀ (f : Nat) (n : Int), (nextF we l (-1) f n).2 = 0 → (nextF we l (-1) f n).1 ≤ n ∧ ∀ i, (nextF we l (-1) f n).1 < i → i ≤ n → isOpen we l i = false
  | 0, n, h => by simp [nextF] at h
  | f + 1, n, h => by
    unfold nextF at h ⊢
    by_cases hd : isDay n
    · rw [if_pos hd] at h ⊢
      by_cases ho : isOpen we l n = true
      · rw [if_pos ho]; exact ⟨Int.le_refl _, fun i a b => by simp only at a; omega⟩
      · rw [if_neg ho] at h ⊢
        obtain ⟨a, b⟩ := nextF_dn we l f (n + -1) h
        refine ⟨by omega, fun i x y => ?_⟩
        by_cases e : i = n
        · rw [e]; exact Bool.eq_false_iff.2 ho
        · exact b i x (by omega)
    · rw [if_neg hd] at h; simp at h
theorem next_up {we : Int} {l : List Rul} {n : Int} (h : (next we l n 1).2 = 0) : n ≤ (next we l n 1).1 ∧ ∀ i, n ≤ i → i < (next we l n 1).1 → isOpen we l i = false := nextF_up we l _ n h
theorem next_dn {we : Int} {l : List Rul} {n : Int} (h : (next we l n (-1)).2 = 0) : (next we l n (-1)).1 ≤ n ∧ ∀ i, (next we l n (-1)).1 < i → i ≤ n → isOpen we l i = false := nextF_dn we l _ n h
theorem next_at {we : Int} {l : List Rul} {n : Int} (hd : isDay n) (ho : isOpen we l n = true) (d : Int) : next we l n d = (n, 0) := by
  unfold next
  rw [show (109580 : Nat) = 109579 + 1 from rfl, nextF, if_pos hd, if_pos ho]

/-- An open day beside n, with none between. -/
def Near (we : Int) (l : List Rul) (n : Int) (p : Int × Int) : Prop := p = (0, 51) ∨ (p.2 = 0 ∧ isDay p.1 ∧ isOpen we l p.1 = true ∧ ((n ≤ p.1 ∧ ∀ i, n ≤ i → i < p.1 → isOpen we l i = false) ∨ (p.1 ≤ n ∧ ∀ i, p.1 < i → i ≤ n → isOpen we l i = false)))
theorem near_up (we : Int) (l : List Rul) (n : Int) : Near we l n (next we l n 1) := by
  rcases next_res we l n 1 with h | ⟨h, a, b⟩
  · exact .inl h
  · exact .inr ⟨h, a, b, .inl (next_up h)⟩
theorem near_dn (we : Int) (l : List Rul) (n : Int) : Near we l n (next we l n (-1)) := by
  rcases next_res we l n (-1) with h | ⟨h, a, b⟩
  · exact .inl h
  · exact .inr ⟨h, a, b, .inr (next_dn h)⟩
theorem near_kept (we : Int) (l : List Rul) (n d : Int) (hd : d = 1 ∨ d = -1) : Near we l n (kept we l n d) := by
  unfold kept
  rcases hd with rfl | rfl
  · split
    · exact near_up we l n
    · exact near_dn we l n
  · split
    · exact near_dn we l n
    · exact near_up we l n
theorem kept_at {we : Int} {l : List Rul} {n : Int} (hd : isDay n) (ho : isOpen we l n = true) (d : Int) : kept we l n d = (n, 0) := by
  unfold kept
  rw [next_at hd ho, if_pos ⟨rfl, rfl⟩]
end Go.Proofs.Ytoncignjcgjhhaa.M
namespace Go.Proofs.Ytoncignjcgjhhaa.R
open Go.RowKit Go.Proofs.YtoncignjcgjhhaaW.PrintWords Go.Proofs.YtoncignjcgjhhaaW.PrintLast Go.Proofs.YtoncignjcgjhhaaW.PrintMore
open Go.Proofs.Ytoncignjcgjhhaa.Q
open Go.Proofs.Ytoncignjcgjhhaa.L (w64 td tm tm0)

theorem open_at {we : Int} {l : List M.Rul} {i : Int} (hc : (M.chk we l).1 = 0) (hi : M.isDay i) : M.Open we l i = (M.isOpen we l i, 0) := by
  unfold M.Open; rw [if_pos hc, if_pos hi]
theorem open_ok {we : Int} {l : List M.Rul} {i : Int} (h : (M.Open we l i).2 = 0) : (M.chk we l).1 = 0 ∧ M.isDay i := by
  unfold M.Open at h
  by_cases hc : (M.chk we l).1 = 0
  · rw [if_pos hc] at h
    by_cases hi : M.isDay i
    · exact ⟨hc, hi⟩
    · rw [if_neg hi] at h; simp at h
  · rw [if_neg hc] at h; exact absurd h hc

theorem CalOpen_l0 {we : Int} {l : List S63} (hw : wfL l) (n way b : Int) (hn : M.isDay n) (hb : M.isDay b) (hc : (M.chk we (l.map H.ru)).1 = 0) (h1 : way = 1 → b > n) (h2 : way = 2 → b < n) :
    ∀ (f : Nat) (i : Int), mx n b - i ≤ f → mn n b < i → (∀ j, i ≤ j → j < mx n b → M.isOpen we (l.map H.ru) j = false) → Ev (fun k => tenorlaw6_CalOpen.l0 k n way b i we l) true
  | f, i, hf, hi, hj => by
    have hmx : mx n b ≤ 109572 := by unfold mx; have := hn.2; have := hb.2; omega
    have hmn : 0 ≤ mn n b := by unfold mn; have := hn.1; have := hb.1; omega
    by_cases hlt : i < mx n b
    · match f, hf with
      | 0, hf => omega
      | f + 1, hf =>
        have hday : M.isDay i := ⟨by omega, by omega⟩
        refine Ev.step (fun k => ?_) (CalOpen_l0 hw n way b hn hb hc h1 h2 f (i + 1) (by omega) (by omega) (fun j a c => hj j (by omega) c))
        rw [tenorlaw6_CalOpen.l0, if_pos hlt, cOpen hw, open_at hc hday, hj i (Int.le_refl _) hlt, Option.bind_some, if_pos rfl, if_neg (by decide), w64 (by omega) (by omega)]
    · refine Ev.step (f := fun _ => some true) (fun k => ?_) (Ev.now _)
      rw [tenorlaw6_CalOpen.l0, if_neg hlt]
      by_cases e1 : way = 1
      · rw [if_pos e1, if_pos (h1 e1), awake6b]
      · rw [if_neg e1]
        by_cases e2 : way = 2
        · rw [if_pos e2, if_pos (h2 e2), awake6b]
        · rw [if_neg e2, awake6b]

theorem CalOpen_j0t (we : Int) (l : List S63) (n way : Int) (b : Bool) : Ev (fun k => tenorlaw6_CalOpen.j0 k n way b true we l) true :=
  Ev.step (f := fun _ => some true) (fun k => by rw [tenorlaw6_CalOpen.j0, if_pos rfl, awake6b]) (Ev.now _)
theorem CalOpen_j1t (we : Int) (l : List S63) (n way : Int) : Ev (fun k => tenorlaw6_CalOpen.j1 k n way n true we l) true :=
  Ev.step (f := fun _ => some true) (fun k => by rw [tenorlaw6_CalOpen.j1, if_pos rfl, if_pos rfl, awake6b]) (Ev.now _)

theorem CalOpen_j0f {we : Int} {l : List S63} (hw : wfL l) (n way : Int) (hn : M.isDay n) (hc : (M.chk we (l.map H.ru)).1 = 0) (h0 : 0 ≤ way) (h4 : way ≤ 4) :
    Ev (fun k => tenorlaw6_CalOpen.j0 k n way (M.isOpen we (l.map H.ru) n) false we l) true := by
  have hA : M.Adjust we (l.map H.ru) n way = if way = 1 then M.next we (l.map H.ru) n 1 else if way = 2 then M.next we (l.map H.ru) n (-1) else if way = 3 then M.kept we (l.map H.ru) n 1 else if way = 4 then M.kept we (l.map H.ru) n (-1) else (n, 0) := by
    unfold M.Adjust; rw [if_pos hc, if_neg (by omega), if_pos hn]
  have hN : way ≠ 0 → M.Near we (l.map H.ru) n (M.Adjust we (l.map H.ru) n way) := by
    intro hne
    rw [hA]
    split
    · exact M.near_up _ _ _
    · split
      · exact M.near_dn _ _ _
      · split
        · exact M.near_kept _ _ _ _ (.inl rfl)
        · split
          · exact M.near_kept _ _ _ _ (.inr rfl)
          · omega
  have hO : M.isOpen we (l.map H.ru) n = true → M.Adjust we (l.map H.ru) n way = (n, 0) := by
    intro ho
    rw [hA, M.next_at hn ho, M.next_at hn ho, M.kept_at hn ho, M.kept_at hn ho]
    simp
  have hZ : way = 0 → M.Adjust we (l.map H.ru) n way = (n, 0) := by
    intro hz; rw [hA, if_neg (by omega), if_neg (by omega), if_neg (by omega), if_neg (by omega)]
  have hU : way = 1 → (M.Adjust we (l.map H.ru) n way).2 = 0 → n ≤ (M.Adjust we (l.map H.ru) n way).1 := by
    intro h; rw [hA, if_pos h]; intro h; exact (M.next_up h).1
  have hD : way = 2 → (M.Adjust we (l.map H.ru) n way).2 = 0 → (M.Adjust we (l.map H.ru) n way).1 ≤ n := by
    intro h; rw [hA, if_neg (by omega), if_pos h]; intro h; exact (M.next_dn h).1
  clear hA
  have hs : ∀ k, tenorlaw6_CalOpen.j0 (k + 1) n way (M.isOpen we (l.map H.ru) n) false we l = _ := fun k => by rw [tenorlaw6_CalOpen.j0, if_neg (by decide), cAdjust hw, Option.bind_some]
  refine Ev.step hs ?_
  clear hs
  by_cases ho : M.isOpen we (l.map H.ru) n = true
  · rw [hO ho]
    refine Ev.congr (fun k => ?_) (CalOpen_j1t we l n way)
    rw [if_pos rfl, if_pos ho]
  · have hof := Bool.eq_false_iff.2 ho
    by_cases hz : way = 0
    · rw [hZ hz]
      refine Ev.congr (fun k => ?_) (CalOpen_j1t we l n way)
      rw [if_pos rfl, if_neg ho, hz]; rfl
    · generalize hp : M.Adjust we (l.map H.ru) n way = p at *
      rcases hN hz with e | ⟨a, b, c, d⟩
      · subst e
        refine Ev.congr (fun k => ?_) (Ev.now _)
        rw [if_neg (by decide), if_pos rfl, if_neg ho, if_neg hz, awake6b]
      · have hwz : (way == 0) = false := beq_eq_false_iff_ne.2 hz
        have hne : p.1 ≠ n := by intro e; rw [e, hof] at c; cases c
        have key : Ev (fun k => tenorlaw6_CalOpen.l0 k n way p.1 (mn n p.1 + 1) we l) true := by
          refine CalOpen_l0 hw n way p.1 hn b hc (fun h => ?_) (fun h => ?_) 200000 _ ?_ (by omega) fun j x y => ?_
          · have := hU h a; omega
          · have := hD h a; omega
          · unfold mx mn; have := hn.1; have := hn.2; have := b.1; have := b.2; omega
          · rcases d with ⟨d1, d2⟩ | ⟨d1, d2⟩
            · refine d2 j ?_ ?_
              · unfold mn at x; omega
              · unfold mx at y; omega
            · refine d2 j ?_ ?_
              · unfold mn at x; omega
              · unfold mx at y; omega
        have hwr : wrap64 (mn n p.1 + 1) = mn n p.1 + 1 := by
          refine w64 ?_ ?_ <;> (unfold mn; have := hn.1; have := hn.2; have := b.1; have := b.2; omega)
        have key2 : Ev (fun k => tenorlaw6_CalOpen.j2 k n way p.1 false we l) true := Ev.step (fun k => by rw [tenorlaw6_CalOpen.j2, if_neg (by decide), hwr]) key
        have key1 : Ev (fun k => tenorlaw6_CalOpen.j1 k n way p.1 false we l) true := Ev.step (fun k => by rw [tenorlaw6_CalOpen.j1, if_neg (by decide), cOpen hw, open_at hc b, c, Option.bind_some, if_pos rfl]; rfl) key2
        refine Ev.congr (fun k => ?_) key1
        rw [if_pos a, if_neg ho, hwz]

theorem CalOpen (we : Int) (l : List S63) (n way : Int) (hw : wfL l) : Ev (fun k => tenorlaw6_CalOpen.f k we l n way) true := by
  refine Ev.congr (fun k => by unfold tenorlaw6_CalOpen.f; rw [cOpen hw, Option.bind_some, Few, Option.bind_some]) ?_
  by_cases h : l.length ≤ 12
  · refine Ev.congr (fun k => by rw [decide_eq_true h, if_pos rfl]) ?_
    by_cases h2 : (M.Open we (l.map H.ru) n).2 = 0
    · refine Ev.congr (fun k => if_pos h2) ?_
      by_cases h3 : way < 0
      · exact Ev.congr (fun k => if_pos h3) (CalOpen_j0t ..)
      · refine Ev.congr (fun k => if_neg h3) ?_
        by_cases h4 : way > 4
        · exact Ev.congr (fun k => by rw [decide_eq_true h4]) (CalOpen_j0t ..)
        · obtain ⟨hc, hn⟩ := open_ok h2
          refine Ev.congr (fun k => ?_) (CalOpen_j0f hw n way hn hc (by omega) (by omega))
          rw [decide_eq_false h4, open_at hc hn]
    · exact Ev.congr (fun k => if_neg h2) (CalOpen_j0t ..)
  · exact Ev.congr (fun k => by rw [decide_eq_false h, if_neg (by decide)]) (CalOpen_j0t ..)
end Go.Proofs.Ytoncignjcgjhhaa.R
