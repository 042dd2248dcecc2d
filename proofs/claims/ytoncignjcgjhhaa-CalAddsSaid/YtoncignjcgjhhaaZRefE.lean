/- What the document's own calendar calls come to: the plain arithmetic. No condition but on the number of days to be added. -/
import Derived.Test.YtoncignjcgjhhaaZRefD
import Derived.Test.YtoncignjcgjhhaaZQx52
import Derived.Test.YtoncignjcgjhhaaZGK
set_option linter.unusedVariables false
set_option linter.unusedSimpArgs false
namespace Go.Proofs.Ytoncignjcgjhhaa.R
open Go.RowKit Go.Proofs.YtoncignjcgjhhaaW.PrintWords Go.Proofs.YtoncignjcgjhhaaW.PrintLast Go.Proofs.YtoncignjcgjhhaaW.PrintMore
open Go.Proofs.Ytoncignjcgjhhaa.Q
open Go.Proofs.Ytoncignjcgjhhaa.L (w64 td tm tm0)

theorem Add_l0 {we : Int} {l : List S63} (h : (M.chk we (l.map H.ru)).1 = 0) (d : Int) (hd : d = 1 ∨ d = -1) : ∀ (f : Nat) (n j : Int), M.isDay n → (d = 1 → 0 ≤ j ∧ j ≤ 9223372036854775807) → (d = -1 → -9223372036854775808 ≤ j ∧ j ≤ 0) → (d = 1 → 109572 - n < f) → (d = -1 → n < f) →
    Ev (fun k => tenorref6_Add.l0 k n j d we l) (M.addF we (l.map H.ru) d f n j)
  | 0, n, j, a, _, _, c, e => by have := a.1; have := a.2; omega
  | f + 1, n, j, a, b1, b2, c, e => by
    have h0 := a.1; have h1 := a.2
    unfold M.addF
    by_cases hj : j = 0
    · rw [if_pos hj]
      exact Ev.step (f := fun _ => some (n, (0 : Int))) (fun k => by rw [tenorref6_Add.l0, if_pos hj]) (Ev.now _)
    · rw [if_neg hj]
      have hw : wrap64 (n + d) = n + d := w64 (by omega) (by omega)
      have hw2 : wrap64 (j - d) = j - d := w64 (by omega) (by omega)
      refine Ev.step (fun k => by rw [tenorref6_Add.l0, if_neg hj, hw, hw2]) (Ev.bind (search h (n + d) d hd (by omega) (by omega)) ?_)
      have hres := res_of we (l.map H.ru) (n + d) d
      have hup : d = 1 → (M.next we (l.map H.ru) (n + d) d).2 = 0 → n + d ≤ (M.next we (l.map H.ru) (n + d) d).1 := by rintro rfl; exact H.nextF_up we (l.map H.ru) 109580 (n + 1)
      have hdn : d = -1 → (M.next we (l.map H.ru) (n + d) d).2 = 0 → (M.next we (l.map H.ru) (n + d) d).1 ≤ n + d := by rintro rfl; exact H.nextF_down we (l.map H.ru) 109580 (n + -1)
      generalize M.next we (l.map H.ru) (n + d) d = p at hres hup hdn ⊢
      by_cases h2 : p.2 = 0
      · have hday : M.isDay p.1 := by
          rcases hres with e | e
          · rw [e] at h2; cases h2
          · exact e.2
        have hs : (sr p).2 = true := decide_eq_true h2
        have u := fun hd => hup hd h2
        have v := fun hd => hdn hd h2
        rw [if_pos h2]
        exact Ev.congr (fun k => if_pos hs) (Add_l0 h d hd f p.1 (j - d) hday (by omega) (by omega) (by omega) (by omega))
      · have hs : ¬ (sr p).2 = true := by simp [sr, h2]
        rw [if_neg h2]
        exact Ev.congr (fun k => if_neg hs) (Ev.now _)

theorem Add (we : Int) (l : List S63) (n k : Int) (hk : L.i64 k) : Ev (fun q => tenorref6_Add.f q we l n k) (M.Add we (l.map H.ru) n k) := by
  have hk0 := hk.1; have hk1 := hk.2
  by_cases k0 : k = 0
  · subst k0
    have e : M.Add we (l.map H.ru) n 0 = M.Adjust we (l.map H.ru) n 1 := by
      unfold M.Add M.Adjust
      by_cases hc : (M.chk we (l.map H.ru)).1 = 0
      · rw [if_pos hc, if_pos hc]
        by_cases hd : M.isDay n
        · rw [if_pos hd, if_pos rfl, if_neg (show ¬ ((1 : Int) < 0 ∨ (1 : Int) > 4) by omega), if_pos hd, if_pos rfl]
        · rw [if_neg hd, if_neg (show ¬ ((1 : Int) < 0 ∨ (1 : Int) > 4) by omega), if_neg hd]
      · rw [if_neg hc, if_neg hc]
    rw [e]
    refine Ev.congr (fun q => ?_) (Ev.bind (f := fun _ (t : Int × Int) => some (t.1, t.2)) (Adjust we l n 1) (Ev.now _))
    unfold tenorref6_Add.f; rw [if_pos rfl]
  · refine Ev.congr (fun q => by unfold tenorref6_Add.f; rw [if_neg k0]) (Ev.bind (asked we l n) ?_)
    unfold M.Add
    by_cases hc : (M.chk we (l.map H.ru)).1 = 0
    · rw [if_pos hc, if_pos hc]
      by_cases hd : M.isDay n
      · have h0 := hd.1; have h1 := hd.2
        rw [if_pos hd, if_pos hd, if_neg k0]
        refine Ev.congr (fun q => if_pos rfl) ?_
        by_cases hneg : k < 0
        · rw [if_pos hneg]
          exact Ev.congr (fun q => if_pos hneg) (Ev.step (fun q => by rw [tenorref6_Add.j0]) (Add_l0 hc (-1) (.inr rfl) 109580 n k hd (by omega) (by omega) (by omega) (by omega)))
        · rw [if_neg hneg]
          exact Ev.congr (fun q => if_neg hneg) (Ev.step (fun q => by rw [tenorref6_Add.j0]) (Add_l0 hc 1 (.inl rfl) 109580 n k hd (by omega) (by omega) (by omega) (by omega)))
      · rw [if_neg hd, if_neg hd]; exact Ev.congr (fun q => if_neg (by decide)) (Ev.now _)
    · rw [if_neg hc, if_neg hc]; exact Ev.congr (fun q => if_neg hc) (Ev.now _)

end Go.Proofs.Ytoncignjcgjhhaa.R
