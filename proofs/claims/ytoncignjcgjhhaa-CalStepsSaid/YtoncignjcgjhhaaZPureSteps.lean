/- The statement of steps: steps of open days put together; counting is adding turned round. Condition: the rules' numbers are of 64 bits. -/
import Derived.Test.YtoncignjcgjhhaaZPureOpen
import Derived.Test.YtoncignjcgjhhaaZQx56
import Derived.Test.YtoncignjcgjhhaaZV
set_option linter.unusedVariables false
set_option linter.unusedSimpArgs false
namespace Go.Proofs.Ytoncignjcgjhhaa.M
def addN (we : Int) (l : List Rul) : Nat → Int → Int × Int
  | 0, n => (n, 0)
  | k + 1, n => if (next we l (n + 1) 1).2 = 0 then addN we l k (next we l (n + 1) 1).1 else (0, 51)
theorem addF_N (we : Int) (l : List Rul) : ∀ (k f : Nat) (n : Int), k < f → addF we l 1 f n (k : Int) = addN we l k n
  | 0, f + 1, n, _ => by unfold addF addN; simp
  | k + 1, f + 1, n, h => by
    unfold addF addN
    rw [if_neg (by omega)]
    have e : ((k + 1 : Nat) : Int) - 1 = (k : Int) := by omega
    rw [e]
    split
    · exact addF_N we l k f _ (by omega)
    · rfl
theorem addN_add (we : Int) (l : List Rul) (k : Nat) : ∀ (j : Nat) (n : Int), addN we l (j + k) n = if (addN we l j n).2 = 0 then addN we l k (addN we l j n).1 else (0, 51)
  | 0, n => by rw [Nat.zero_add, addN, if_pos rfl]
  | j + 1, n => by
    rw [show j + 1 + k = (j + k) + 1 by omega, addN, addN]
    split
    · exact addN_add we l k j _
    · simp
theorem addN_res (we : Int) (l : List Rul) : ∀ (k : Nat) (n : Int), addN we l (k + 1) n = (0, 51) ∨ ((addN we l (k + 1) n).2 = 0 ∧ n < (addN we l (k + 1) n).1 ∧ isDay (addN we l (k + 1) n).1 ∧ isOpen we l (addN we l (k + 1) n).1 = true)
  | k, n => by
    rw [addN]
    rcases next_res we l (n + 1) 1 with e | ⟨a, b, c⟩
    · rw [e]; simp
    · rw [if_pos a]
      have hu := (next_up a).1
      match k with
      | 0 => rw [addN]; exact .inr ⟨rfl, by simp only; omega, b, c⟩
      | k + 1 =>
        rcases addN_res we l k (next we l (n + 1) 1).1 with e | ⟨p, q, r, s⟩
        · exact .inl e
        · exact .inr ⟨p, by omega, r, s⟩
theorem cntF_add (we : Int) (l : List Rul) (g : Nat) : ∀ (f : Nat) (i : Int), cntF we l (f + g) i = cntF we l f i + cntF we l g (i + f)
  | 0, i => by rw [Nat.zero_add, cntF]; simp
  | f + 1, i => by
    rw [show f + 1 + g = (f + g) + 1 by omega, cntF, cntF, cntF_add we l g f (i + 1), show i + 1 + (f : Int) = i + ((f + 1 : Nat) : Int) by omega]
    omega
theorem cntF_none (we : Int) (l : List Rul) : ∀ (f : Nat) (i : Int), (∀ x, i ≤ x → x < i + f → isOpen we l x = false) → cntF we l f i = 0
  | 0, i, _ => rfl
  | f + 1, i, h => by
    rw [cntF, h i (Int.le_refl _) (by omega), cntF_none we l f (i + 1) (fun x a b => h x (by omega) (by omega))]; rfl
theorem cntF_rg (we : Int) (l : List Rul) : ∀ (f : Nat) (i : Int), 0 ≤ cntF we l f i ∧ cntF we l f i ≤ f
  | 0, i => by rw [cntF]; omega
  | f + 1, i => by
    rw [cntF]
    have := cntF_rg we l f (i + 1)
    split <;> omega
theorem cntF_join (we : Int) (l : List Rul) {a b c : Int} (h1 : a ≤ b) (h2 : b ≤ c) : cntF we l (c - a).toNat a = cntF we l (b - a).toNat a + cntF we l (c - b).toNat b := by
  rw [show (c - a).toNat = (b - a).toNat + (c - b).toNat by omega, cntF_add, show a + ((b - a).toNat : Int) = b by omega]
theorem addN_cnt (we : Int) (l : List Rul) : ∀ (k : Nat) (a : Int), isOpen we l a = true → (addN we l k a).2 = 0 → a ≤ (addN we l k a).1 ∧ cntF we l ((addN we l k a).1 - a).toNat a = k
  | 0, a, _, _ => by
    rw [addN]; refine ⟨Int.le_refl _, ?_⟩
    simp only [Int.sub_self]; rfl
  | k + 1, a, ho, h => by
    rw [addN] at h ⊢
    rcases next_res we l (a + 1) 1 with e | ⟨p, q, r⟩
    · rw [e] at h; simp at h
    · rw [if_pos p] at h ⊢
      obtain ⟨u, v⟩ := next_up p
      obtain ⟨s, t⟩ := addN_cnt we l k _ r h
      refine ⟨by omega, ?_⟩
      rw [cntF_join we l (show a ≤ a + 1 by omega) (show a + 1 ≤ _ by omega), cntF_join we l (show a + 1 ≤ (next we l (a + 1) 1).1 by omega) s, t]
      rw [show (a + 1 - a).toNat = 0 + 1 by omega, cntF, cntF, ho, if_pos rfl]
      rw [cntF_none we l _ (a + 1) (fun x y z => v x y (by omega))]
      omega
end Go.Proofs.Ytoncignjcgjhhaa.M
namespace Go.Proofs.Ytoncignjcgjhhaa.R
open Go.RowKit Go.Proofs.YtoncignjcgjhhaaW.PrintWords Go.Proofs.YtoncignjcgjhhaaW.PrintLast Go.Proofs.YtoncignjcgjhhaaW.PrintMore
open Go.Proofs.Ytoncignjcgjhhaa.Q
open Go.Proofs.Ytoncignjcgjhhaa.L (w64 td tm tm0)

theorem add_up {we : Int} {l : List M.Rul} {n : Int} (hc : (M.chk we l).1 = 0) (hn : M.isDay n) {j : Nat} (h0 : 1 ≤ j) (h1 : j < 109580) : M.Add we l n (j : Int) = M.addN we l j n := by
  unfold M.Add; rw [if_pos hc, if_pos hn, if_neg (by omega), if_neg (by omega)]
  exact M.addF_N we l j _ n h1
theorem count_up {we : Int} {l : List M.Rul} {a b : Int} (hc : (M.chk we l).1 = 0) (ha : M.isDay a) (hb : M.isDay b) (h : a ≤ b) : M.Count we l a b = (M.cntF we l (b - a).toNat a, 0) := by
  unfold M.Count; rw [if_pos hc, if_pos ⟨ha, hb⟩, if_neg (by omega)]
theorem count_dn {we : Int} {l : List M.Rul} {a b : Int} (hc : (M.chk we l).1 = 0) (ha : M.isDay a) (hb : M.isDay b) (h : b < a) : M.Count we l a b = (-(M.cntF we l (a - b).toNat b), 0) := by
  unfold M.Count; rw [if_pos hc, if_pos ⟨ha, hb⟩, if_pos h]

theorem CalSteps_j1t (we : Int) (l : List S63) (n k a b e : Int) (he : e ≠ 0) : Ev (fun q => tenorlaw6_CalSteps.j1 q n k a b e true we l) true :=
  Ev.step (f := fun _ => some true) (fun q => by rw [tenorlaw6_CalSteps.j1, if_pos rfl, if_neg he, awake6b]) (Ev.now _)
theorem CalSteps_j0t (we : Int) (l : List S63) (n j k : Int) : Ev (fun q => tenorlaw6_CalSteps.j0 q n j k true we l) true :=
  Ev.step (f := fun _ => some true) (fun q => by rw [tenorlaw6_CalSteps.j0, if_pos rfl, awake6b]) (Ev.now _)

theorem CalSteps_j0f {we : Int} {l : List S63} (hw : wfL l) (n : Int) (j k : Nat) (hj : 1 ≤ j) (hj2 : j ≤ 200) (hk : 1 ≤ k) (hk2 : k ≤ 200) : Ev (fun q => tenorlaw6_CalSteps.j0 q n (j : Int) (k : Int) false we l) true := by
  have ij : L.i64 (j : Int) := by unfold L.i64; omega
  have ik : L.i64 (k : Int) := by unfold L.i64; omega
  have ijk : L.i64 ((j + k : Nat) : Int) := by unfold L.i64; omega
  have hwr : wrap64 ((j : Int) + (k : Int)) = ((j + k : Nat) : Int) := by rw [w64 (by omega) (by omega)]; omega
  have hs : ∀ q, tenorlaw6_CalSteps.j0 (q + 1) n (j : Int) (k : Int) false we l = _ := fun q => by rw [tenorlaw6_CalSteps.j0, if_neg (by decide), hwr, cAdd hw _ _ _ ij, cAdd hw _ _ _ ijk, Option.bind_some, Option.bind_some]
  refine Ev.step hs ?_
  clear hs
  by_cases hc : (M.chk we (l.map H.ru)).1 = 0
  · by_cases hn : M.isDay n
    · rw [add_up hc hn hj (by omega), add_up hc hn (show 1 ≤ j + k by omega) (by omega), M.addN_add]
      obtain ⟨j', rfl⟩ : ∃ m, j = m + 1 := ⟨j - 1, by omega⟩
      obtain ⟨k', rfl⟩ : ∃ m, k = m + 1 := ⟨k - 1, by omega⟩
      rcases M.addN_res we (l.map H.ru) j' n with e | ⟨a1, a2, a3, a4⟩
      · rw [e]
        exact Ev.congr (fun q => by rw [if_neg (by decide)]) (CalSteps_j1t _ _ _ _ _ _ _ (by simp))
      · generalize hA : M.addN we (l.map H.ru) (j' + 1) n = A at *
        rw [if_pos a1]
        have hcn := M.addN_cnt we (l.map H.ru) (k' + 1) A.1 a4
        have hAdd := add_up hc a3 (show 1 ≤ k' + 1 by omega) (by omega)
        rcases M.addN_res we (l.map H.ru) k' A.1 with e | ⟨b1, b2, b3, b4⟩
        · rw [e]
          exact Ev.congr (fun q => by rw [if_pos a1]; rfl) (CalSteps_j1t _ _ _ _ _ _ _ (by simp))
        · generalize hB : M.addN we (l.map H.ru) (k' + 1) A.1 = B at *
          obtain ⟨c1, c2⟩ := hcn b1
          have hj := M.cntF_join we (l.map H.ru) (show n ≤ A.1 by omega) c1
          have r1 := M.cntF_rg we (l.map H.ru) (A.1 - n).toNat n
          have r2 := M.cntF_rg we (l.map H.ru) (B.1 - n).toNat n
          have d1 := hn.1; have d2 := hn.2; have d3 := b3.1; have d4 := b3.2; have d5 := a3.1; have d6 := a3.2
          refine Ev.congr (fun q => if_pos a1) ?_
          have hb2 : (B.2 != 0) = false := bne_eq_false_iff_eq.2 b1
          rw [hb2]
          refine Ev.step (f := fun _ => some true) (fun q => ?_) (Ev.now _)
          rw [tenorlaw6_CalSteps.j1, if_neg (by decide), cAdd hw _ _ _ ik, hAdd, cCount hw, cCount hw, cCount hw, cCount hw, count_up hc a3 b3 c1, count_up hc hn a3 (by omega), count_up hc hn b3 (by omega), count_dn hc b3 hn (by omega)]
          simp only [Option.bind_some, b1, if_true]
          have q1 : wrap64 (M.cntF we (List.map H.ru l) (A.fst - n).toNat n + M.cntF we (List.map H.ru l) (B.fst - A.fst).toNat A.fst) = M.cntF we (List.map H.ru l) (B.fst - n).toNat n := by rw [w64 (by omega) (by omega), hj]
          have q2 : -M.cntF we (List.map H.ru l) (B.fst - n).toNat n = wrap64 (-M.cntF we (List.map H.ru l) (B.fst - n).toNat n) := by rw [w64 (by omega) (by omega)]
          rw [if_pos c2, if_pos q1, if_pos q2, awake6b]
    · have e1 : ∀ k, M.Add we (l.map H.ru) n k = (0, 51) := fun k => by unfold M.Add; rw [if_pos hc, if_neg hn]
      rw [e1, e1]
      exact Ev.congr (fun q => if_neg (by decide)) (CalSteps_j1t _ _ _ _ _ _ _ (by simp))
  · have e1 : ∀ k, M.Add we (l.map H.ru) n k = (0, (M.chk we (l.map H.ru)).1) := fun k => by unfold M.Add; rw [if_neg hc]
    rw [e1, e1]
    exact Ev.congr (fun q => if_neg hc) (CalSteps_j1t _ _ _ _ _ _ _ hc)

theorem CalSteps (we : Int) (l : List S63) (n j k : Int) (hw : wfL l) : Ev (fun q => tenorlaw6_CalSteps.f q we l n j k) true := by
  refine Ev.congr (fun q => by unfold tenorlaw6_CalSteps.f; rw [Few, Option.bind_some]) ?_
  by_cases h : l.length ≤ 12
  · refine Ev.congr (fun k => by rw [decide_eq_true h, if_pos rfl]) ?_
    by_cases h1 : j < 1
    · exact Ev.congr (fun q => if_pos h1) (CalSteps_j0t ..)
    · refine Ev.congr (fun q => if_neg h1) ?_
      by_cases h2 : j > 200
      · exact Ev.congr (fun q => if_pos h2) (CalSteps_j0t ..)
      · refine Ev.congr (fun q => if_neg h2) ?_
        by_cases h3 : k < 1
        · exact Ev.congr (fun q => if_pos h3) (CalSteps_j0t ..)
        · refine Ev.congr (fun q => if_neg h3) ?_
          by_cases h4 : k > 200
          · exact Ev.congr (fun q => by rw [decide_eq_true h4]) (CalSteps_j0t ..)
          · obtain ⟨j', rfl⟩ := Int.eq_ofNat_of_zero_le (show 0 ≤ j by omega)
            obtain ⟨k', rfl⟩ := Int.eq_ofNat_of_zero_le (show 0 ≤ k by omega)
            refine Ev.congr (fun q => ?_) (CalSteps_j0f (we := we) hw n j' k' (by omega) (by omega) (by omega) (by omega))
            rw [decide_eq_false h4]
  · exact Ev.congr (fun k => by rw [decide_eq_false h, if_neg (by decide)]) (CalSteps_j0t ..)
end Go.Proofs.Ytoncignjcgjhhaa.R
