/- What the document's own calendar calls come to: the plain arithmetic. No condition but on the number of days to be added. -/
import Derived.Test.YtoncignjcgjhhaaZGH
import Derived.Test.YtoncignjcgjhhaaZGG
import Derived.Test.YtoncignjcgjhhaaZGF
import Derived.Test.YtoncignjcgjhhaaZGD
import Derived.Test.YtoncignjcgjhhaaZK
set_option linter.unusedVariables false
set_option linter.unusedSimpArgs false
namespace Go.Proofs.Ytoncignjcgjhhaa.R
open Go.RowKit Go.Proofs.YtoncignjcgjhhaaW.PrintWords Go.Proofs.YtoncignjcgjhhaaW.PrintLast Go.Proofs.YtoncignjcgjhhaaW.PrintMore
open Go.Proofs.Ytoncignjcgjhhaa.Q
open Go.Proofs.Ytoncignjcgjhhaa.L (w64 td tm tm0)

theorem in_ (a b c : Int) : tenorref6_in.f a b c = some (decide (b ≤ a ∧ a ≤ c)) := by
  have := L.within a b c; unfold cal_within.f at this; unfold tenorref6_in.f; exact this
theorem rd_eq (l : List S63) (i : Nat) (h : i < l.length) : rd_T63 l (i : Int) = l[i] := by simp [rd_T63, h]
theorem Check_l0 (we : Int) (l : List S63) (hlen : l.length ≤ 64) : ∀ (f i : Nat), i ≤ l.length → l.length - i = f → Ev (fun k => tenorref6_Check.l0 k (i : Int) we l) (M.chkAt ((l.drop i).map H.ru) i)
  | 0, i, a, b => by
    have e : i = l.length := by omega
    have c1 : ¬ (i : Int) < (l.length : Int) := by omega
    refine Ev.step (f := fun _ => some (M.chkAt ((l.drop i).map H.ru) i)) (fun k => ?_) (Ev.now _)
    rw [tenorref6_Check.l0, if_neg c1, e, List.drop_length]; rfl
  | f + 1, i, a, b => by
    have hlt : i < l.length := by omega
    have ih := Check_l0 we l hlen f (i + 1) (by omega) (by omega)
    have c1 : (i : Int) < (l.length : Int) := by omega
    have c2 : (0 : Int) ≤ (i : Int) := by omega
    have hw : wrap64 ((i : Int) + 1) = ((i + 1 : Nat) : Int) := by rw [w64 (by omega) (by omega)]; push_cast; rfl
    have hl0 : ∀ k, tenorref6_Check.l0 (k + 1) (i : Int) we l = if M.may (H.ru l[i]) = true then tenorref6_Check.l0 k ((i + 1 : Nat) : Int) we l else some (60, (i : Int)) := by
      intro k
      rw [tenorref6_Check.l0, if_pos c1, if_pos c2, rd_eq l i hlt, hw]
      rfl
    rw [List.drop_eq_getElem_cons hlt, List.map_cons]
    unfold M.chkAt
    by_cases hm : M.may (H.ru l[i]) = true
    · rw [if_pos hm]
      push_cast at ih
      exact Ev.step (fun k => by rw [hl0 k, if_pos hm]; push_cast; rfl) ih
    · rw [if_neg hm]
      exact Ev.step (f := fun _ => some ((60 : Int), (i : Int))) (fun k => by rw [hl0 k, if_neg hm]) (Ev.now _)

theorem Check (we : Int) (l : List S63) : Ev (fun k => tenorref6_Check.f k we l) (M.chk we (l.map H.ru)) := by
  unfold M.chk
  by_cases h : 64 < l.length
  · have c1 : (l.length : Int) > 64 := by omega
    rw [if_pos (by simpa using h)]
    exact Ev.congr (fun k => by unfold tenorref6_Check.f; rw [if_pos c1]) (Ev.now _)
  · have c1 : ¬ (l.length : Int) > 64 := by omega
    rw [if_neg (by simpa using h)]
    by_cases hw : 0 ≤ we ∧ we ≤ 126
    · rw [if_pos hw]
      have h0 := Check_l0 we l (by omega) l.length 0 (by omega) (by omega)
      refine Ev.congr (fun k => ?_) h0
      unfold tenorref6_Check.f
      rw [if_neg c1, in_, decide_eq_true hw]; rfl
    · rw [if_neg hw]
      refine Ev.congr (fun k => ?_) (Ev.now _)
      unfold tenorref6_Check.f
      rw [if_neg c1, in_, decide_eq_false hw]; rfl

theorem mays {we : Int} {l : List S63} (h : (M.chk we (l.map H.ru)).1 = 0) : 0 ≤ we ∧ we ≤ 126 ∧ l.length ≤ 64 ∧ ∀ r ∈ l, M.may (H.ru r) = true :=
  have h := M.chk_ok h
  ⟨h.2.2.1, h.2.2.2.1, by simpa using h.2.1, fun x hx => h.2.2.2.2 _ (List.mem_map_of_mem hx)⟩

end Go.Proofs.Ytoncignjcgjhhaa.R
