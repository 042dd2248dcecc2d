/- Contracts and facts of functions of the program (calendar, dates and their documents), joined in one text by a program of this session. No condition but what each theorem states. -/
import Derived.Test.YtoncignjcgjhhaaDoorZGB
set_option linter.unusedVariables false
set_option linter.unusedSimpArgs false
namespace Go.Proofs.YtoncignjcgjhhaaDoor.R
open Go.RowKit Go.Proofs.YtoncignjcgjhhaaDoorW.PrintWords Go.Proofs.YtoncignjcgjhhaaDoorW.PrintLast Go.Proofs.YtoncignjcgjhhaaDoorW.PrintMore
open Go.Proofs.YtoncignjcgjhhaaDoor.Q
open Go.Proofs.YtoncignjcgjhhaaDoor.L (w64 td tm tm0)
theorem Leap (y : Int) : tenorref5_Leap.f y = some (M.leap y) := by
 unfold tenorref5_Leap.f M.leap
 have e : ((Int.tmod y 400 == 0) : Bool) = decide (y % 400 = 0) := by
  rw [Bool.eq_iff_iff, beq_iff_eq, decide_eq_true_eq, tm0]
 rw [e]
 simp only [tm0]
 by_cases h4 : y % 4 = 0
 ·
  rw [if_pos h4]
  by_cases h100 : y % 100 = 0
  ·
   rw [if_pos h100]; congr 1; rw [decide_eq_decide]; omega
  ·
   rw [if_neg h100]; congr 1; symm; rw [decide_eq_true_eq]; omega
 ·
  rw [if_neg h4]; congr 1; rw [decide_eq_decide]; omega
theorem length_k (k : Nat) (y m : Int) : tenorref5_length.f (k + 1) y m = some (M.mlen y m) := by
 unfold tenorref5_length.f M.mlen
 simp only [tenorref5_length.j0]
 by_cases h4 : m = 4
 ·
  subst h4; simp
 rw [if_neg h4]
 by_cases h6 : m = 6
 ·
  subst h6; simp
 rw [if_neg h6]
 by_cases h9 : m = 9
 ·
  subst h9; simp
 rw [if_neg h9]
 by_cases h11 : m = 11
 ·
  subst h11; simp
 have e11 : (m == 11) = false := by simpa using h11
 rw [e11]
 simp only [Bool.false_eq_true, if_false]
 by_cases h2 : m = 2
 ·
  rw [if_pos h2, if_pos h2, Leap]; cases M.leap y <;> rfl
 ·
  rw [if_neg h2, if_neg h2, if_neg h4, if_neg h6, if_neg h9, if_neg h11]
theorem length_0 (y m : Int) : tenorref5_length.f 0 y m = none := by
 unfold tenorref5_length.f
 repeat' split
 all_goals rfl
theorem length (y m : Int) : Ev (fun k => tenorref5_length.f k y m) (M.mlen y m) := Ev.step (fun k => length_k k y m) (Ev.now _)
theorem Length (y m : Int) : Ev (fun k => tenorref5_Length.f k y m) (if 1900 ≤ y ∧ y ≤ 2199 ∧ 1 ≤ m ∧ m ≤ 12 then (M.mlen y m, 0) else (0, 50)) := by
 by_cases h : 1900 ≤ y ∧ y ≤ 2199 ∧ 1 ≤ m ∧ m ≤ 12
 ·
  rw [if_pos h]
  refine Ev.congr (fun k => ?_) (Ev.bind (f := fun _ t => some (t, (0 : Int))) (length y m) (Ev.now _))
  unfold tenorref5_Length.f
  rw [if_neg (by omega), if_neg (by omega), if_neg (by omega), if_neg (by omega)]
 ·
  rw [if_neg h]
  refine Ev.congr (fun k => ?_) (Ev.now _)
  unfold tenorref5_Length.f
  by_cases h1 : y < 1900
  ·
   rw [if_pos h1]
  rw [if_neg h1]
  by_cases h2 : y > 2199
  ·
   rw [if_pos h2]
  rw [if_neg h2]
  by_cases h3 : m < 1
  ·
   rw [if_pos h3]
  rw [if_neg h3, if_pos (by omega)]
theorem Of_l1 (y m n : Int) (hn : -1000000 ≤ n) (hn1 : n ≤ 2000000) (hm : 1 ≤ m) (hm1 : m ≤ 12) : ∀ (f : Nat) (i : Int), 1 ≤ i → i ≤ m → m - i = f →
  Ev (fun k => tenorref5_Of.l1 k y m (n + M.cum y i) i) (n + M.cum y m, 0)
 | 0, i, a, b, c => by
  have e : i = m := by omega
  refine Ev.step (f := fun _ => some (n + M.cum y m, (0 : Int))) (fun k => ?_) (Ev.now _)
  simp only [tenorref5_Of.l1]
  rw [if_neg (by omega), e]
 | f + 1, i, a, b, c => by
  have ih := Of_l1 y m n hn hn1 hm hm1 f (i + 1) (by omega) (by omega) (by omega)
  have r := M.cum_rng y i;have l := M.mlen_rng y i
  have s := M.cum_succ y i a (by omega)
  refine Ev.step (fun k => ?_) (Ev.bind (f := fun k t => tenorref5_Of.l1 k y m (wrap64 (n + M.cum y i + t)) (wrap64 (i + 1))) (length y i) ?_)
  ·
   simp only [tenorref5_Of.l1]; rw [if_pos (by omega)]
  ·
   rw [w64 (by omega) (by omega), w64 (by omega) (by omega), show n + M.cum y i + M.mlen y i = n + M.cum y (i + 1) from by omega]
   exact ih
theorem Of_l0 (y m d : Int) (h0 : 1900 ≤ y) (h1 : y ≤ 2199) (hm : 1 ≤ m) (hm1 : m ≤ 12) (hd : 1 ≤ d) (hd1 : d ≤ 31) : ∀ (f : Nat) (i : Int), 1900 ≤ i → i ≤ y → y - i = f →
  Ev (fun k => tenorref5_Of.l0 k y m (d - 1 + M.before i) i) (M.dayOf y m d, 0)
 | 0, i, a, b, c => by
  have e : i = y := by omega
  have hb := L.before_rng y (by omega) (by omega)
  have h := Of_l1 y m (d - 1 + M.before y) (by omega) (by omega) hm hm1 (m - 1).toNat 1 (by omega) hm (by omega)
  rw [M.cum_1, Int.add_zero, show d - 1 + M.before y + M.cum y m = M.dayOf y m d from by unfold M.dayOf; omega] at h
  refine Ev.step (fun k => ?_) h
  simp only [tenorref5_Of.l0]
  rw [if_neg (by omega), e]
 | f + 1, i, a, b, c => by
  have ih := Of_l0 y m d h0 h1 hm hm1 hd hd1 f (i + 1) (by omega) (by omega) (by omega)
  have hb := L.before_rng i (by omega) (by omega)
  have hs := M.before_succ i
  refine Ev.step (fun k => ?_) ih
  simp only [tenorref5_Of.l0]
  rw [if_pos (by omega), Leap]
  simp only [Option.bind_some]
  unfold M.lp at hs
  by_cases hl : M.leap i = true
  ·
   rw [if_pos hl] at hs ⊢
   rw [w64 (x := d - 1 + M.before i + 365) (by omega) (by omega), w64 (by omega) (by omega), w64 (by omega) (by omega), show d - 1 + M.before i + 365 + 1 = d - 1 + M.before (i + 1) from by omega]
  ·
   rw [if_neg hl] at hs ⊢
   rw [w64 (x := d - 1 + M.before i + 365) (by omega) (by omega), w64 (by omega) (by omega), show d - 1 + M.before i + 365 = d - 1 + M.before (i + 1) from by omega]
theorem Of (y m d : Int) : Ev (fun k => tenorref5_Of.f k y m d) (if M.isDate y m d then (M.dayOf y m d, 0) else (0, 50)) := by
 have hl := M.mlen_rng y m
 by_cases hy : 1900 ≤ y ∧ y ≤ 2199 ∧ 1 ≤ m ∧ m ≤ 12
 ·
  have hL := Length y m
  rw [if_pos hy] at hL
  refine Ev.congr (fun k => rfl) (Ev.bind hL ?_)
  simp only [if_true]
  by_cases h1 : d < 1
  ·
   refine Ev.congr (fun k => if_pos h1) ?_
   rw [if_neg (show ¬ M.isDate y m d from fun e => by have := e.2.2.2.2.1; omega)]
   exact Ev.step (f := fun _ => some ((0 : Int), (50 : Int))) (fun k => by simp only [tenorref5_Of.j0, if_true]) (Ev.now _)
  ·
   refine Ev.congr (fun k => if_neg h1) ?_
   by_cases h2 : d ≤ M.mlen y m
   ·
    rw [if_pos (show M.isDate y m d from ⟨hy.1, hy.2.1, hy.2.2.1, hy.2.2.2, by omega, h2⟩)]
    have h := Of_l0 y m d hy.1 hy.2.1 hy.2.2.1 hy.2.2.2 (by omega) (by omega) (y - 1900).toNat 1900 (by omega) hy.1 (by omega)
    rw [M.before_1900, Int.add_zero] at h
    refine Ev.step (fun k => ?_) h
    rw [show decide (d > M.mlen y m) = false from decide_eq_false (by omega)]
    simp only [tenorref5_Of.j0, Bool.false_eq_true, if_false]
    rw [w64 (by omega) (by omega)]
   ·
    rw [if_neg (show ¬ M.isDate y m d from fun e => h2 e.2.2.2.2.2)]
    rw [show decide (d > M.mlen y m) = true from decide_eq_true (by omega)]
    exact Ev.step (f := fun _ => some ((0 : Int), (50 : Int))) (fun k => by simp only [tenorref5_Of.j0, if_true]) (Ev.now _)
 ·
  rw [if_neg (show ¬ M.isDate y m d from fun e => hy ⟨e.1, e.2.1, e.2.2.1, e.2.2.2.1⟩)]
  have hL := Length y m
  rw [if_neg hy] at hL
  refine Ev.congr (fun k => rfl) (Ev.bind hL ?_)
  simp only [show ¬ ((50 : Int) = 0) from by decide, if_false]
  exact Ev.step (f := fun _ => some ((0 : Int), (50 : Int))) (fun k => by simp only [tenorref5_Of.j0, if_true]) (Ev.now _)
theorem Civil_l1 (y d : Int) (h0 : 0 ≤ d) (h1 : d < 365 + M.lp y) : ∀ (f : Nat) (m : Int), 1 ≤ m → m ≤ M.monOf y d → M.monOf y d - m = f →
  Ev (fun k => tenorref5_Civil.l1 k (d - M.cum y m) y m) (y, M.monOf y d, d - M.cum y (M.monOf y d) + 1, 0)
 | 0, m, a, b, c => by
  obtain ⟨p, q, r, s⟩ := M.monOf_spec y d h0 h1
  have e : m = M.monOf y d := by omega
  have hc := M.cum_succ y (M.monOf y d) p q
  have hg := M.cum_rng y (M.monOf y d)
  have hl := M.lp_01 y
  rw [e]
  refine Ev.step (fun k => ?_) (Ev.bind (f := fun _ _ => some (y, M.monOf y d, d - M.cum y (M.monOf y d) + 1, (0 : Int))) (length y (M.monOf y d)) (Ev.now _))
  simp only [tenorref5_Civil.l1]
  cases k with
  | zero => rw [length_0]; rfl
  | succ k =>
   rw [length_k]; simp only [Option.bind_some]
   rw [if_neg (by omega), w64 (by omega) (by omega)]
 | f + 1, m, a, b, c => by
  obtain ⟨p, q, r, s⟩ := M.monOf_spec y d h0 h1
  have ih := Civil_l1 y d h0 h1 f (m + 1) (by omega) (by omega) (by omega)
  have hc := M.cum_succ y m a (by omega)
  have hg := M.cum_rng y m
  have hle := M.cum_le y (show 1 ≤ m + 1 by omega) (show m + 1 ≤ M.monOf y d by omega) (by omega)
  have hl := M.lp_01 y;have hml := M.mlen_rng y m
  refine Ev.step (fun k => ?_) (Ev.bind (f := fun k _ => tenorref5_Civil.l1 k (d - M.cum y (m + 1)) y (m + 1)) (length y m) ih)
  simp only [tenorref5_Civil.l1]
  cases k with
  | zero => rw [length_0]; rfl
  | succ k =>
   rw [length_k]; simp only [Option.bind_some]
   rw [if_pos (by omega), w64 (by omega) (by omega), w64 (by omega) (by omega), show d - M.cum y m - M.mlen y m = d - M.cum y (m + 1) from by omega]
theorem Civil_l0 (n : Int) (h0 : 0 ≤ n) (h1 : n ≤ 109572) : ∀ (f : Nat) (y : Int), 1900 ≤ y → y ≤ M.yearOf n → M.yearOf n - y = f →
  Ev (fun k => tenorref5_Civil.l0 k (n - M.before y) y) (M.civY n, M.civM n, M.civD n, 0)
 | 0, y, a, b, c => by
  obtain ⟨p, q, r, s⟩ := M.yearOf_spec n h0 h1
  have e : y = M.yearOf n := by omega
  have hs := M.before_succ (M.yearOf n)
  have hb := L.before_rng (M.yearOf n) (by omega) (by omega)
  obtain ⟨p2, q2, r2, s2⟩ := M.monOf_spec (M.yearOf n) (n - M.before (M.yearOf n)) (by omega) (by omega)
  have h := Civil_l1 (M.yearOf n) (n - M.before (M.yearOf n)) (by omega) (by omega) (M.monOf (M.yearOf n) (n - M.before (M.yearOf n)) - 1).toNat 1 (by omega) p2 (by omega)
  rw [M.cum_1, Int.sub_zero] at h
  have h2 : Ev (fun k => tenorref5_Civil.j2 k (n - M.before (M.yearOf n)) (M.yearOf n)) (M.civY n, M.civM n, M.civD n, 0) := Ev.step (fun k => rfl) h
  refine Ev.step (fun k => ?_) h2
  rw [e]
  simp only [tenorref5_Civil.l0]
  rw [Leap]
  simp only [Option.bind_some]
  unfold M.lp at hs
  by_cases hl : M.leap (M.yearOf n) = true
  ·
   rw [if_pos hl] at hs ⊢; rw [if_pos (by omega)]
  ·
   rw [if_neg hl] at hs ⊢; rw [if_pos (by omega)]
 | f + 1, y, a, b, c => by
  obtain ⟨p, q, r, s⟩ := M.yearOf_spec n h0 h1
  have ih := Civil_l0 n h0 h1 f (y + 1) (by omega) (by omega) (by omega)
  have hle := M.before_le (show y + 1 ≤ M.yearOf n by omega)
  have hs := M.before_succ y
  have hb := L.before_rng y (by omega) (by omega)
  refine Ev.step (fun k => ?_) ih
  simp only [tenorref5_Civil.l0]
  rw [Leap]
  simp only [Option.bind_some]
  unfold M.lp at hs
  by_cases hl : M.leap y = true
  ·
   rw [if_pos hl] at hs ⊢
   rw [if_neg (by omega), w64 (by omega) (by omega), w64 (by omega) (by omega), show n - M.before y - 366 = n - M.before (y + 1) from by omega]
  ·
   rw [if_neg hl] at hs ⊢
   rw [if_neg (by omega), w64 (by omega) (by omega), w64 (by omega) (by omega), show n - M.before y - 365 = n - M.before (y + 1) from by omega]
theorem Civil (n : Int) : Ev (fun k => tenorref5_Civil.f k n) (if 0 ≤ n ∧ n ≤ 109572 then (M.civY n, M.civM n, M.civD n, 0) else (0, 0, 0, 51)) := by
 by_cases h : 0 ≤ n ∧ n ≤ 109572
 ·
  rw [if_pos h]
  obtain ⟨p, q, r, s⟩ := M.yearOf_spec n h.1 h.2
  have h2 := Civil_l0 n h.1 h.2 (M.yearOf n - 1900).toNat 1900 (by omega) p (by omega)
  rw [M.before_1900, Int.sub_zero] at h2
  refine Ev.congr (fun k => ?_) (Ev.step (g := fun k => tenorref5_Civil.j0 k n false) (fun k => by simp only [tenorref5_Civil.j0, Bool.false_eq_true, if_false]) h2)
  unfold tenorref5_Civil.f
  rw [if_neg (by omega), show decide (n > 109572) = false from decide_eq_false (by omega)]
 ·
  rw [if_neg h]
  refine Ev.congr (fun k => ?_) (Ev.step (g := fun k => tenorref5_Civil.j0 k n true) (f := fun _ => some ((0 : Int), (0 : Int), (0 : Int), (51 : Int))) (fun k => by simp only [tenorref5_Civil.j0, if_true]) (Ev.now _))
  unfold tenorref5_Civil.f
  by_cases h0 : n < 0
  ·
   rw [if_pos h0]
  ·
   rw [if_neg h0, show decide (n > 109572) = true from decide_eq_true (by omega)]
end Go.Proofs.YtoncignjcgjhhaaDoor.R
