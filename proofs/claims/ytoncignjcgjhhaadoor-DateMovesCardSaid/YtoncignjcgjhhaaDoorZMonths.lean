/- Months on and third Wednesdays, of the document. No condition but on the sizes told. -/
import Derived.Test.YtoncignjcgjhhaaDoorZMonths0
import Derived.Test.YtoncignjcgjhhaaDoorZGC
import Derived.Test.YtoncignjcgjhhaaDoorZQx16
import Derived.Test.YtoncignjcgjhhaaDoorZQx13
import Derived.Test.YtoncignjcgjhhaaDoorZV
set_option linter.unusedVariables false
set_option linter.unusedSimpArgs false
namespace Go.Proofs.YtoncignjcgjhhaaDoor.R
open Go.RowKit Go.Proofs.YtoncignjcgjhhaaDoorW.PrintWords Go.Proofs.YtoncignjcgjhhaaDoorW.PrintLast Go.Proofs.YtoncignjcgjhhaaDoorW.PrintMore
open Go.Proofs.YtoncignjcgjhhaaDoor.Q
open Go.Proofs.YtoncignjcgjhhaaDoor.L (w64 td tm tm0)
def mon5 (n k : Int) : Int × Int × Bool := if M.monthsOk n k then (M.mAt n k / 12, M.mAt n k % 12 + 1, true) else (0, 0, false)
theorem Month5 (n k : Int) (hn : 0 ≤ n ∧ n ≤ 109572) : Ev (fun q => tenorref5_Month.f q (M.civY n) (M.civM n) (M.civD n) k) (mon5 n k) := by
 have hs := (M.civ_spec n hn.1 hn.2).1
 unfold M.isDate at hs
 have ht : Ev (fun q => tenorref5_Month.j0 q k true (M.civY n) (M.civM n) (M.civD n)) ((0, 0, false) : Int × Int × Bool) :=
  Ev.step (f := fun _ => some ((0, 0, false) : Int × Int × Bool)) (fun q => by rw [tenorref5_Month.j0, if_pos rfl]) (Ev.now _)
 unfold mon5
 by_cases h0 : k < -4000
 ·
  rw [if_neg (fun h => by have := h.1; omega)]
  exact Ev.congr (fun q => by unfold tenorref5_Month.f; rw [if_pos h0]) ht
 ·
  by_cases h1 : k > 4000
  ·
   rw [if_neg (fun h => by have := h.2.1; omega)]
   exact Ev.congr (fun q => by unfold tenorref5_Month.f; rw [if_neg h0, decide_eq_true h1]) ht
  ·
   have hm : 0 ≤ M.mAt n k := by unfold M.mAt; omega
   have hm2 : M.mAt n k ≤ 40000 := by unfold M.mAt; omega
   have e1 : wrap64 (wrap64 (wrap64 (wrap64 (12 * M.civY n) + M.civM n) - 1) + k) = M.mAt n k := by
    unfold M.mAt
    rw [w64 (x := 12 * M.civY n) (by omega) (by omega), w64 (x := 12 * M.civY n + M.civM n) (by omega) (by omega), w64 (x := 12 * M.civY n + M.civM n - 1) (by omega) (by omega), w64 (by omega) (by omega)]
   have e2 : wrap64 (Int.tdiv (M.mAt n k) 12) = M.mAt n k / 12 := by rw [td hm, w64 (by omega) (by omega)]
   have e3 : wrap64 (Int.tmod (M.mAt n k) 12 + 1) = M.mAt n k % 12 + 1 := by rw [tm hm, w64 (by omega) (by omega)]
   refine Ev.congr (fun q => by unfold tenorref5_Month.f; rw [if_neg h0, decide_eq_false h1]) ?_
   refine Ev.step (f := fun _ => some (if M.monthsOk n k then (M.mAt n k / 12, M.mAt n k % 12 + 1, true) else ((0, 0, false) : Int × Int × Bool))) (fun q => ?_) (Ev.now _)
   have hok : M.monthsOk n k ↔ 22800 ≤ M.mAt n k ∧ M.mAt n k ≤ 26399 := by unfold M.monthsOk; omega
   rw [tenorref5_Month.j0, if_neg (by decide), e1, e2, e3]
   by_cases c1 : M.mAt n k < 22800
   ·
    rw [if_pos c1, if_neg (fun h => by have := hok.1 h; omega)]
   ·
    rw [if_neg c1]
    by_cases c2 : M.mAt n k > 26399
    ·
     rw [if_pos c2, if_neg (fun h => by have := hok.1 h; omega)]
    ·
     rw [if_neg c2, if_pos (hok.2 (by omega))]
theorem Months5 (n k : Int) (e : Bool) : Ev (fun q => tenorref5_Months.f q n k e) (M.months n k e) := by
 have hc := Civil n
 by_cases hn : 0 ≤ n ∧ n ≤ 109572
 ·
  rw [if_pos hn] at hc
  refine Ev.congr (fun q => by unfold tenorref5_Months.f; rfl) (Ev.bind hc ?_)
  refine Ev.congr (fun q => if_pos rfl) (Ev.bind (Month5 n k hn) ?_)
  unfold M.months mon5
  rw [if_pos hn]
  by_cases ho : M.monthsOk n k
  ·
   rw [if_pos ho, if_pos ho]
   refine Ev.congr (fun q => if_pos rfl) (Ev.bind (length _ _) ?_)
   have ho2 := Of (M.mAt n k / 12) (M.mAt n k % 12 + 1) (M.monthsDay n k e)
   rw [if_pos (M.monthsDate e hn ho)] at ho2
   have jt : M.monthsDay n k e = M.mlen (M.mAt n k / 12) (M.mAt n k % 12 + 1) → ∀ x, Ev (fun q => tenorref5_Months.j0 q (M.mAt n k / 12) (M.mAt n k % 12 + 1) x true) (M.dayOf (M.mAt n k / 12) (M.mAt n k % 12 + 1) (M.monthsDay n k e), (0 : Int)) := fun h x => by
    refine Ev.step (fun q => by rw [tenorref5_Months.j0, if_pos rfl]) (Ev.bind (length _ _) ?_)
    rw [h] at ho2
    rw [h]
    exact Ev.bind ho2 (Ev.now _)
   have jf : M.monthsDay n k e = mn (M.civD n) (M.mlen (M.mAt n k / 12) (M.mAt n k % 12 + 1)) → Ev (fun q => tenorref5_Months.j0 q (M.mAt n k / 12) (M.mAt n k % 12 + 1) (mn (M.civD n) (M.mlen (M.mAt n k / 12) (M.mAt n k % 12 + 1))) false) (M.dayOf (M.mAt n k / 12) (M.mAt n k % 12 + 1) (M.monthsDay n k e), (0 : Int)) := fun h => by
    refine Ev.step (fun q => by rw [tenorref5_Months.j0, if_neg (by decide)]) ?_
    rw [← h]
    exact Ev.bind ho2 (Ev.now _)
   cases e with
   | true =>
    refine Ev.congr (fun q => if_pos rfl) (Ev.bind (length _ _) ?_)
    by_cases c2 : M.civD n = M.mlen (M.civY n) (M.civM n)
    ·
     rw [show (M.civD n == M.mlen (M.civY n) (M.civM n)) = true from beq_iff_eq.2 c2]
     refine jt ?_ _
     unfold M.monthsDay
     split
     ·
      rfl
     ·
      rw [if_pos ⟨rfl, c2⟩]
    ·
     rw [show (M.civD n == M.mlen (M.civY n) (M.civM n)) = false from by rw [beq_eq_false_iff_ne]; exact c2]
     refine jf ?_
     unfold mn M.monthsDay
     rw [if_neg (fun h : true = true ∧ _ => c2 h.2)]
   | false =>
    refine Ev.congr (fun q => if_neg (by decide)) ?_
    refine jf ?_
    unfold mn M.monthsDay
    rw [if_neg (fun h : false = true ∧ _ => absurd h.1 (by decide))]
  ·
   rw [if_neg ho, if_neg ho]
   exact Ev.congr (fun q => if_neg (by decide)) (Ev.now _)
 ·
  rw [if_neg hn] at hc
  refine Ev.congr (fun q => by unfold tenorref5_Months.f; rfl) (Ev.bind hc ?_)
  unfold M.months
  rw [if_neg hn]
  exact Ev.congr (fun q => if_neg (by decide)) (Ev.now _)
theorem Third5_l0 (x : Int) (h0 : 0 ≤ x) (h1 : x ≤ 200000) : ∀ (f : Nat) (n : Int), x ≤ n → n ≤ x + 7 → n ≤ x + (9 - x % 7) % 7 → x + (9 - x % 7) % 7 - n = f → Ev (fun q => tenorref5_Third.l0 q n) (x + (9 - x % 7) % 7, (0 : Int))
 | 0, n, a, b, c, d => by
  have e : n = x + (9 - x % 7) % 7 := by omega
  refine Ev.step (f := fun _ => some (x + (9 - x % 7) % 7, (0 : Int))) (fun q => ?_) (Ev.now _)
  rw [tenorref5_Third.l0, tm (by omega), if_pos (by omega), e]
 | f + 1, n, a, b, c, d => by
  refine Ev.step (fun q => ?_) (Third5_l0 x h0 h1 f (n + 1) (by omega) (by omega) (by omega) (by omega))
  rw [tenorref5_Third.l0, tm (by omega), if_neg (by omega), w64 (by omega) (by omega)]
theorem Third5 (y m : Int) : Ev (fun q => tenorref5_Third.f q y m) (if 1900 ≤ y ∧ y ≤ 2199 ∧ 1 ≤ m ∧ m ≤ 12 then (M.third y m, 0) else ((0, 50) : Int × Int)) := by
 have ho2 := Of y m 15
 by_cases h : 1900 ≤ y ∧ y ≤ 2199 ∧ 1 ≤ m ∧ m ≤ 12
 ·
  rw [if_pos (M.d15 h)] at ho2
  have hr := M.day_rng (M.d15 h)
  rw [if_pos h]
  refine Ev.congr (fun q => by unfold tenorref5_Third.f; rfl) (Ev.bind ho2 ?_)
  refine Ev.congr (fun q => if_pos rfl) ?_
  exact Third5_l0 (M.dayOf y m 15) hr.1 (by omega) ((9 - M.dayOf y m 15 % 7) % 7).toNat _ (Int.le_refl _) (by omega) (by omega) (by omega)
 ·
  rw [if_neg (fun hd : M.isDate y m 15 => h ⟨hd.1, hd.2.1, hd.2.2.1, hd.2.2.2.1⟩)] at ho2
  rw [if_neg h]
  refine Ev.congr (fun q => by unfold tenorref5_Third.f; rfl) (Ev.bind ho2 ?_)
  exact Ev.congr (fun q => if_neg (by decide)) (Ev.now _)
end Go.Proofs.YtoncignjcgjhhaaDoor.R
