/- The law of the months there and back and of the same weekday 28 years on, over the functions that the walk computes. No condition. -/
import Derived.Test.YtoncignjcgjhhaaDoorZPureD0
import Derived.Test.YtoncignjcgjhhaaDoorZMonths
import Derived.Test.YtoncignjcgjhhaaDoorZQx18
import Derived.Test.YtoncignjcgjhhaaDoorZV
set_option linter.unusedVariables false
set_option linter.unusedSimpArgs false
namespace Go.Proofs.YtoncignjcgjhhaaDoor.M
theorem monthsDay_f (n k : Int) : monthsDay n k false = if civD n > mlen (mAt n k / 12) (mAt n k % 12 + 1) then mlen (mAt n k / 12) (mAt n k % 12 + 1) else civD n := by
  unfold monthsDay
  rw [if_neg (fun h : false = true ∧ _ => absurd h.1 (by decide))]
theorem months_to {n k Y Mo D : Int} (hn : 0 ≤ n ∧ n ≤ 109572) (hk : -4000 ≤ k ∧ k ≤ 4000) (hY : 1900 ≤ Y ∧ Y ≤ 2199) (hM : 1 ≤ Mo ∧ Mo ≤ 12) (e : mAt n k = 12 * Y + Mo - 1) (hD : civD n = D) (hl : D ≤ mlen Y Mo) :
  months n k false = (dayOf Y Mo D, 0) := by
 have e1 : mAt n k / 12 = Y := by omega
 have e2 : mAt n k % 12 + 1 = Mo := by omega
 have ho : monthsOk n k := by unfold monthsOk; omega
 unfold months
 rw [if_pos hn, if_pos ho, monthsDay_f, e1, e2, hD, if_neg (by omega)]
theorem months_0 {n : Int} (hn : 0 ≤ n ∧ n ≤ 109572) : months n 0 false = (n, 0) := by
  obtain ⟨⟨a, b, c, d, e, f⟩, g⟩ := civ_spec n hn.1 hn.2
  rw [months_to hn (by omega) ⟨a, b⟩ ⟨c, d⟩ (by unfold mAt; omega) rfl f, g]
def onDay (n k : Int) : Int := dayOf (mAt n k / 12) (mAt n k % 12 + 1) (monthsDay n k false)
theorem on_civ {n k : Int} (hn : 0 ≤ n ∧ n ≤ 109572) (ho : monthsOk n k) : 0 ≤ onDay n k ∧ onDay n k ≤ 109572 ∧ civY (onDay n k) = mAt n k / 12 ∧ civM (onDay n k) = mAt n k % 12 + 1 ∧ civD (onDay n k) = monthsDay n k false := by
 have hd := monthsDate false hn ho;have hr := day_rng hd
 obtain ⟨a, b, c⟩ := civ_unique hd rfl
 exact ⟨hr.1, hr.2.1, a, b, c⟩
theorem months_back {n k : Int} (hn : 0 ≤ n ∧ n ≤ 109572) (ho : monthsOk n k) (hd : civD n ≤ 28) : months (onDay n k) (-k) false = (n, 0) := by
 obtain ⟨a, b, c, d, e⟩ := on_civ hn ho
 obtain ⟨⟨a', b', c', d', e', f'⟩, g'⟩ := civ_spec n hn.1 hn.2
 have l := mlen_rng (mAt n k / 12) (mAt n k % 12 + 1)
 have l2 := mlen_rng (civY n) (civM n)
 have eD : civD (onDay n k) = civD n := by rw [e, monthsDay_f, if_neg (by omega)]
 unfold monthsOk at ho
 rw [months_to (Y := civY n) (Mo := civM n) (D := civD n) ⟨a, b⟩ (by omega) ⟨a', b'⟩ ⟨c', d'⟩ ?_ eD f', g']
 have em : mAt (onDay n k) (-k) = 12 * civY (onDay n k) + civM (onDay n k) - 1 + (-k) := rfl
 have em2 : mAt n k = 12 * civY n + civM n - 1 + k := rfl
 rw [em, c, d]
 omega
theorem leap_28 {y : Int} (h0 : 1901 ≤ y) (h1 : y + 28 ≤ 2099) : leap (y + 28) = leap y := by
 unfold leap
 rw [decide_eq_decide]
 omega
theorem before_28 {y : Int} (h0 : 1901 ≤ y) (h1 : y + 28 ≤ 2099) : before (y + 28) = before y + 10227 := by unfold before; omega
theorem months_336 {n : Int} (hn : 0 ≤ n ∧ n ≤ 109572) (h0 : 1901 ≤ civY n) (h1 : civY n + 28 ≤ 2099) : months n 336 false = (n + 10227, 0) := by
 obtain ⟨⟨a, b, c, d, e, f⟩, g⟩ := civ_spec n hn.1 hn.2
 have el : mlen (civY n + 28) (civM n) = mlen (civY n) (civM n) := by unfold mlen; rw [leap_28 h0 h1]
 have ec : cum (civY n + 28) (civM n) = cum (civY n) (civM n) := by unfold cum lp; rw [leap_28 h0 h1]
 rw [months_to (Y := civY n + 28) (Mo := civM n) (D := civD n) hn (by omega) (by omega) ⟨c, d⟩ (by unfold mAt; omega) rfl (by omega)]
 have : dayOf (civY n + 28) (civM n) (civD n) = dayOf (civY n) (civM n) (civD n) + 10227 := by unfold dayOf; rw [ec, before_28 h0 h1]; omega
 rw [this, g]
end Go.Proofs.YtoncignjcgjhhaaDoor.M
namespace Go.Proofs.YtoncignjcgjhhaaDoor.D
open Go.RowKit Go.Proofs.YtoncignjcgjhhaaDoorW.PrintWords Go.Proofs.YtoncignjcgjhhaaDoorW.PrintLast Go.Proofs.YtoncignjcgjhhaaDoorW.PrintMore
open Go.Proofs.YtoncignjcgjhhaaDoor.Q
open Go.Proofs.YtoncignjcgjhhaaDoor.L (w64 td tm tm0)
theorem Moves_j4t {n : Int} (hn : 0 ≤ n ∧ n ≤ 109572) (h0 : 1901 ≤ M.civY n) (h1 : M.civY n + 28 ≤ 2099) : Ev (fun q => tenorlaw5_DateMoves.j4 q n true) true := by
 have hm := L.Months n 336 false
 rw [M.months_336 hn h0 h1] at hm
 refine Ev.step (fun q => by rw [tenorlaw5_DateMoves.j4, if_pos rfl]) (Ev.bind hm ?_)
 have e : wrap64 (n + 10227 - n) = 10227 := by rw [w64 (by omega) (by omega)]; omega
 refine Ev.congr (fun q => ?_) awk
 show (if (0 : Int) = 0 then (if wrap64 (n + 10227 - n) = 10227 then (if Int.tmod (wrap64 (n + 10227 - n)) 7 = 0 then _ else _) else _) else _) = _
 rw [e, if_pos rfl, if_pos rfl, if_pos (by decide)]
theorem Moves_j4f (n : Int) : Ev (fun q => tenorlaw5_DateMoves.j4 q n false) true := Ev.step (fun q => by rw [tenorlaw5_DateMoves.j4, if_neg (by decide)]) awk
theorem Moves_j3 {n : Int} (hn : 0 ≤ n ∧ n ≤ 109572) : Ev (fun q => tenorlaw5_DateMoves.j3 q n (M.civY n)) true := by
 obtain ⟨⟨a, b, c, d, e, f⟩, g⟩ := M.civ_spec n hn.1 hn.2
 have ew : wrap64 (M.civY n + 28) = M.civY n + 28 := w64 (by omega) (by omega)
 by_cases h0 : M.civY n ≥ 1901
 ·
  by_cases h1 : M.civY n + 28 ≤ 2099
  ·
   exact Ev.step (fun q => by rw [tenorlaw5_DateMoves.j3, if_pos h0, ew, decide_eq_true h1]) (Moves_j4t hn h0 h1)
  ·
   exact Ev.step (fun q => by rw [tenorlaw5_DateMoves.j3, if_pos h0, ew, decide_eq_false h1]) (Moves_j4f n)
 ·
  exact Ev.step (fun q => by rw [tenorlaw5_DateMoves.j3, if_neg h0]) (Moves_j4f n)
theorem Moves_j2 {n k : Int} (hn : 0 ≤ n ∧ n ≤ 109572) : Ev (fun q => tenorlaw5_DateMoves.j2 q n k (M.civY n) (M.civM n) (M.civD n) (M.months n k false).1 (M.months n k false).2) true := by
 obtain ⟨⟨a', b', c', d', e', f'⟩, g'⟩ := M.civ_spec n hn.1 hn.2
 by_cases ho : M.monthsOk n k
 ·
  have em : M.months n k false = (M.onDay n k, 0) := by unfold M.months M.onDay; rw [if_pos hn, if_pos ho]
  rw [em]
  obtain ⟨a, b, c, d, e⟩ := M.on_civ hn ho
  have hc := L.Civil (M.onDay n k)
  rw [if_pos ⟨a, b⟩, c, d, e] at hc
  have hr := M.mAt_rng ho
  have e1 : M.mAt n k = 12 * M.civY n + M.civM n - 1 + k := rfl
  refine Ev.step (fun q => by rw [tenorlaw5_DateMoves.j2, if_pos rfl]) (Ev.bind hc ?_)
  refine Ev.congr (fun q => ?_) (Moves_j3 hn)
  show ((date_Length.f (M.mAt n k / 12) (M.mAt n k % 12 + 1)).bind fun bt255 => (if k > 4000 then some false else if k < -4000 then some false else if wrap64 (wrap64 (12 * (M.mAt n k / 12)) + (M.mAt n k % 12 + 1)) = wrap64 (wrap64 (wrap64 (12 * M.civY n) + M.civM n) + k) then if M.monthsDay n k false = mn (M.civD n) bt255.1 then tenorlaw5_DateMoves.j3 q n (M.civY n) else some false else some false)) = _
  have ho' := ho
  unfold M.monthsOk at ho'
  have w1 : wrap64 (wrap64 (12 * (M.mAt n k / 12)) + (M.mAt n k % 12 + 1)) = M.mAt n k + 1 := by
   rw [w64 (x := 12 * (M.mAt n k / 12)) (by omega) (by omega), w64 (by omega) (by omega)]; omega
  have w2 : wrap64 (wrap64 (wrap64 (12 * M.civY n) + M.civM n) + k) = M.mAt n k + 1 := by
   rw [w64 (x := 12 * M.civY n) (by omega) (by omega), w64 (x := 12 * M.civY n + M.civM n) (by omega) (by omega), w64 (by omega) (by omega)]; omega
  have wd : M.monthsDay n k false = mn (M.civD n) (M.mlen (M.mAt n k / 12) (M.mAt n k % 12 + 1)) := by rw [M.monthsDay_f]; unfold mn; rfl
  rw [L.Length, if_pos hr, Option.bind_some, if_neg (by omega), if_neg (by omega), w1, w2, if_pos rfl, if_pos wd]
 ·
  have em : M.months n k false = (0, 51) := by unfold M.months; rw [if_pos hn, if_neg ho]
  rw [em]
  exact Ev.step (fun q => by rw [tenorlaw5_DateMoves.j2, if_neg (by decide)]) (Moves_j3 hn)
theorem Moves_j0 {n : Int} (k : Int) (hn : 0 ≤ n ∧ n ≤ 109572) : Ev (fun q => tenorlaw5_DateMoves.j0 q n k false) true := by
 have hc := L.Civil n
 rw [if_pos hn] at hc
 refine Ev.step (fun q => by rw [tenorlaw5_DateMoves.j0, if_neg (by decide)]) (Ev.bind hc (Ev.bind (L.Months n k false) ?_))
 have hj := Moves_j2 (k := k) hn
 have j1f : Ev (fun q => tenorlaw5_DateMoves.j1 q n k (M.civY n) (M.civM n) (M.civD n) (M.months n k false).1 (M.months n k false).2 false) true :=
  Ev.step (fun q => by rw [tenorlaw5_DateMoves.j1, if_neg (by decide)]) hj
 by_cases ho : M.monthsOk n k
 ·
  have em : M.months n k false = (M.onDay n k, 0) := by unfold M.months M.onDay; rw [if_pos hn, if_pos ho]
  rw [em] at hj j1f ⊢
  refine Ev.congr (fun q => if_pos rfl) ?_
  by_cases hd : M.civD n ≤ 28
  ·
   have hb := L.Months (M.onDay n k) (-k) false
   rw [M.months_back hn ho hd] at hb
   unfold M.monthsOk at ho
   have ek : wrap64 (-k) = -k := w64 (by omega) (by omega)
   refine Ev.congr (fun q => by rw [decide_eq_true (show _ ≤ (28 : Int) from hd)]) ?_
   refine Ev.step (fun q => by rw [tenorlaw5_DateMoves.j1, if_pos rfl, ek]) (Ev.bind hb ?_)
   exact Ev.congr (fun q => by rw [if_pos rfl, if_pos rfl]) hj
  ·
   exact Ev.congr (fun q => by rw [decide_eq_false (show ¬ _ ≤ (28 : Int) from hd)]) j1f
 ·
  have em : M.months n k false = (0, 51) := by unfold M.months; rw [if_pos hn, if_neg ho]
  rw [em] at j1f ⊢
  exact Ev.congr (fun q => if_neg (by decide)) j1f
theorem isDay (n : Int) : tenorlaw5_isDay.f n = some (decide (0 ≤ n ∧ n ≤ 109572)) := by
 unfold tenorlaw5_isDay.f
 split
 ·
  congr 1; rw [decide_eq_decide]; omega
 ·
  congr 1; symm; rw [decide_eq_false_iff_not]; omega
theorem DateMoves (n k : Int) : Ev (fun q => tenorlaw5_DateMoves.f q n k) true := by
 refine Ev.congr (fun q => by unfold tenorlaw5_DateMoves.f; rfl) (Ev.bind (L.Months n 0 false) ?_)
 refine Ev.congr (fun q => by rw [isDay, Option.bind_some]) ?_
 by_cases hn : 0 ≤ n ∧ n ≤ 109572
 ·
  rw [M.months_0 hn]
  refine Ev.congr (fun q => ?_) (Moves_j0 k hn)
  rw [decide_eq_true hn, if_pos rfl, if_pos rfl, show (((n, (0 : Int)) : Int × Int).1 != n) = false by simp]
 ·
  have em : M.months n 0 false = (0, 51) := by unfold M.months; rw [if_neg hn]
  rw [em]
  refine Ev.congr (fun q => ?_) awk
  rw [decide_eq_false hn, if_neg (by decide), if_pos rfl]
end Go.Proofs.YtoncignjcgjhhaaDoor.D
