/- Contracts and facts of functions of the program (calendar, dates and their documents), joined in one text by a program of this session. No condition but what each theorem states. -/
import Derived.Test.YtoncignjcgjhhaaCV
import Derived.Test.YtoncignjcgjhhaaCGE
import Derived.Test.YtoncignjcgjhhaaCGC
import Derived.Test.YtoncignjcgjhhaaCGF
import Derived.Test.YtoncignjcgjhhaaCGG
import Derived.Maps.Views
import Derived.Test.YtoncignjcgjhhaaCGA
set_option linter.unusedVariables false
set_option linter.unusedSimpArgs false
namespace Go.Proofs.Ytoncignjcgjhhaa.R
open Go.RowKit Go.Proofs.YtoncignjcgjhhaaW.PrintWords Go.Proofs.YtoncignjcgjhhaaW.PrintLast Go.Proofs.YtoncignjcgjhhaaW.PrintMore
open Go.Proofs.Ytoncignjcgjhhaa.Q
open Go.Proofs.Ytoncignjcgjhhaa.L (w64 td tm tm0)
theorem mod7 (n : Int) : Int.tmod (Int.tmod n 7 + 7) 7 = n % 7 := by
 have h : -7 < Int.tmod n 7 ∧ Int.tmod n 7 < 7 ∧ (Int.tmod n 7) % 7 = n % 7 := by
  by_cases h0 : 0 ≤ n
  ·
   rw [tm h0]; omega
  ·
   obtain ⟨m, rfl⟩ : ∃ m, n = -m := ⟨-n, by omega⟩
   rw [Int.neg_tmod, tm (by omega)]; omega
 rw [tm (by omega)]; omega
theorem shr_tab : ∀ we : Fin 127, ∀ s : Fin 7, (Go.bits .and .i64 (shr .i64 (we.val : Int) (s.val : Int)) 1 == 1) = decide ((we.val : Int) / 2 ^ (s.val : Int).toNat % 2 = 1) := by decide +kernel
theorem off (we n : Int) (l : List S63) (h0 : 0 ≤ we) (h1 : we ≤ 126) : xcM.f we l n = some (M.off we n) := by
 unfold xcM.f
 have ht : -7 < Int.tmod n 7 ∧ Int.tmod n 7 < 7 := by
  by_cases h0 : 0 ≤ n
  ·
   rw [tm h0]; omega
  ·
   obtain ⟨m, rfl⟩ : ∃ m, n = -m := ⟨-n, by omega⟩
   rw [Int.neg_tmod, tm (by omega)]; omega
 rw [w64 (x := Int.tmod n 7 + 7) (by omega) (by omega), mod7, if_pos (by omega)]
 have h := shr_tab ⟨we.toNat, by omega⟩ ⟨(n % 7).toNat, by omega⟩
 rw [show (((⟨we.toNat, by omega⟩ : Fin 127).val : Nat) : Int) = we from by simp; omega, show (((⟨(n % 7).toNat, by omega⟩ : Fin 7).val : Nat) : Int) = n % 7 from by simp; omega] at h
 rw [h]
 unfold M.off
 rw [show (n + 7) % 7 = n % 7 from by omega]
theorem least (p : Int → Bool) : ∀ (N : Nat), p N = false → ∃ k : Int, 0 ≤ k ∧ k ≤ N ∧ p k = false ∧ ∀ j, 0 ≤ j → j < k → p j = true
 | 0, h => ⟨0, by omega, by omega, h, fun j a b => by omega⟩
 | N + 1, h => by
  by_cases hN : ∃ k : Nat, k ≤ N ∧ p k = false
  ·
   obtain ⟨k, hk, hp⟩ := hN
   obtain ⟨q, a, b, c, d⟩ := least p k hp
   exact ⟨q, a, by omega, c, d⟩
  ·
   refine ⟨(N + 1 : Nat), by omega, by omega, h, fun j a b => ?_⟩
   cases hj : p j with
   | true => rfl
   | false => exact absurd ⟨j.toNat, by omega, by rw [show ((j.toNat : Nat) : Int) = j from by omega]; exact hj⟩ hN
 termination_by N => N
 decreasing_by omega
theorem xhE (we n mv ku kd : Int) (hu : M.off we (n + ku) = false) (hu' : ∀ j, 0 ≤ j → j < ku → M.off we (n + j) = true) (hd : M.off we (n - kd) = false) (hd' : ∀ j, 0 ≤ j → j < kd → M.off we (n - j) = true) (hku : ku ≤ 6) :
  ∀ (f : Nat) (k : Int), 1 ≤ k → k ≤ ku → (mv = 2 → k ≤ kd) → k + f = 7 → M.movedF we n mv f k = if mv = 2 ∧ kd < ku then n - kd else n + ku
 | 0, k, a, b, c, d => by omega
 | f + 1, k, a, b, c, d => by
  unfold M.movedF
  by_cases e : k = ku
  ·
   subst e; rw [if_pos hu]
   rw [if_neg (by rintro ⟨x, y⟩; have := c x; omega)]
  ·
   rw [if_neg (by rw [hu' k (by omega) (by omega)]; simp)]
   by_cases h2 : mv = 2
   ·
    by_cases e2 : k = kd
    ·
     subst e2; rw [if_pos ⟨h2, hd⟩, if_pos ⟨h2, by omega⟩]
    ·
     have := c h2
     rw [if_neg (by rw [hd' k (by omega) (by omega)]; simp)]
     exact xhE we n mv ku kd hu hu' hd hd' hku f (k + 1) (by omega) (by omega) (by omega) (by omega)
   ·
    rw [if_neg (by simp [h2])]
    exact xhE we n mv ku kd hu hu' hd hd' hku f (k + 1) (by omega) (by omega) (by omega) (by omega)
theorem moved_l1 (we n mv up kd : Int) (l : List S63) (h0 : 0 ≤ we) (h1 : we ≤ 126) (hn : -1000000 ≤ n) (hn1 : n ≤ 1000000) (hup : -1000000 ≤ up) (hup1 : up ≤ 2000000) (hkd : kd ≤ 6) (hd : M.off we (n - kd) = false) (hd' : ∀ j, 0 ≤ j → j < kd → M.off we (n - j) = true) :
  ∀ (f : Nat) (j : Int), 0 ≤ j → j ≤ kd → kd - j = f → Ev (fun k => xaX.l1 k n mv up (n - j) we l) (if mv = 2 ∧ kd < up - n then n - kd else up)
 | 0, j, a, b, c => by
  have e : j = kd := by omega
  refine Ev.step (f := fun _ => some (if mv = 2 ∧ kd < up - n then n - kd else up)) (fun k => ?_) (Ev.now _)
  simp only [xaX.l1]
  rw [off we _ l h0 h1, e, hd]
  simp only [Option.bind_some, Bool.false_eq_true, if_false]
  rw [w64 (by omega) (by omega), w64 (by omega) (by omega)]
  by_cases h2 : mv = 2
  ·
   rw [if_pos h2]
   by_cases h3 : kd < up - n
   ·
    rw [if_pos (by omega), if_pos ⟨h2, h3⟩]
   ·
    rw [if_neg (by omega), if_neg (by simp [h3])]
  ·
   rw [if_neg h2, if_neg (by simp [h2])]
 | f + 1, j, a, b, c => by
  have ih := moved_l1 we n mv up kd l h0 h1 hn hn1 hup hup1 hkd hd hd' f (j + 1) (by omega) (by omega) (by omega)
  refine Ev.step (fun k => ?_) ih
  simp only [xaX.l1]
  rw [off we _ l h0 h1, hd' j a (by omega)]
  simp only [Option.bind_some, if_true]
  rw [w64 (by omega) (by omega), show n - j - 1 = n - (j + 1) from by omega]
theorem moved_l0 (we n mv ku kd : Int) (l : List S63) (h0 : 0 ≤ we) (h1 : we ≤ 126) (hn : -1000000 ≤ n) (hn1 : n ≤ 1000000) (hku : ku ≤ 6) (hkd : kd ≤ 6) (hkd0 : 0 ≤ kd) (hu : M.off we (n + ku) = false) (hu' : ∀ j, 0 ≤ j → j < ku → M.off we (n + j) = true)
  (hd : M.off we (n - kd) = false) (hd' : ∀ j, 0 ≤ j → j < kd → M.off we (n - j) = true) :
  ∀ (f : Nat) (j : Int), 0 ≤ j → j ≤ ku → ku - j = f → Ev (fun k => xaX.l0 k n mv (n + j) we l) (if mv = 2 ∧ kd < ku then n - kd else n + ku)
 | 0, j, a, b, c => by
  have e : j = ku := by omega
  have h := moved_l1 we n mv (n + ku) kd l h0 h1 hn hn1 (by omega) (by omega) hkd hd hd' kd.toNat 0 (by omega) (by omega) (by omega)
  rw [Int.sub_zero, show n + ku - n = ku from by omega] at h
  refine Ev.step (fun k => ?_) h
  simp only [xaX.l0]
  rw [off we _ l h0 h1, e, hu]
  simp only [Option.bind_some, Bool.false_eq_true, if_false]
 | f + 1, j, a, b, c => by
  have ih := moved_l0 we n mv ku kd l h0 h1 hn hn1 hku hkd hkd0 hu hu' hd hd' f (j + 1) (by omega) (by omega) (by omega)
  refine Ev.step (fun k => ?_) ih
  simp only [xaX.l0]
  rw [off we _ l h0 h1, hu' j a (by omega)]
  simp only [Option.bind_some, if_true]
  rw [w64 (by omega) (by omega), show n + j + 1 = n + (j + 1) from by omega]
theorem moved (we n mv : Int) (l : List S63) (h0 : 0 ≤ we) (h1 : we ≤ 126) (hn : -1000000 ≤ n) (hn1 : n ≤ 1000000) : Ev (fun k => xaX.f k we l n mv) (M.moved we n mv) := by
 have no : ∀ b, b = true → Ev (fun k => xaX.j0 k n mv b we l) n := fun b hb => Ev.step (f := fun _ => some n) (fun k => by simp only [xaX.j0, hb, if_true]) (Ev.now _)
 by_cases hm : mv = 0
 ·
  subst hm
  rw [H.moved_0]
  exact Ev.congr (fun k => by unfold xaX.f; rw [if_pos rfl]) (no true rfl)
 ·
  cases ho : M.off we n with
  | false =>
   rw [H.xiH ho]
   refine Ev.congr (fun k => ?_) (no true rfl)
   unfold xaX.f
   rw [if_neg hm, off we n l h0 h1, ho]; rfl
  | true =>
   rw [H.moved_off hm ho]
   obtain ⟨ku0, a, b, c⟩ := M.off_near we n h0 h1
   obtain ⟨ku, u0, u1, u2, u3⟩ := least (fun j => M.off we (n + j)) ku0.toNat (by show M.off we (n + _) = false; rw [show ((ku0.toNat : Nat) : Int) = ku0 from by omega]; exact c)
   obtain ⟨kd0, a', b', c'⟩ := M.off_near we (n - 6) h0 h1
   obtain ⟨kd, d0, d1, d2, d3⟩ := least (fun j => M.off we (n - j)) (6 - kd0).toNat (by show M.off we (n - _) = false; rw [show n - (((6 - kd0).toNat : Nat) : Int) = n - 6 + kd0 from by omega]; exact c')
   replace u2 : M.off we (n + ku) = false := u2
   replace d2 : M.off we (n - kd) = false := d2
   replace u3 : ∀ j, 0 ≤ j → j < ku → M.off we (n + j) = true := u3
   replace d3 : ∀ j, 0 ≤ j → j < kd → M.off we (n - j) = true := d3
   have hku1 : 1 ≤ ku := by
    by_cases e : ku = 0
    ·
     subst e; rw [Int.add_zero, ho] at u2; cases u2
    ·
     omega
   have hkd1 : 1 ≤ kd := by
    by_cases e : kd = 0
    ·
     subst e; rw [Int.sub_zero, ho] at d2; cases d2
    ·
     omega
   rw [xhE we n mv ku kd u2 u3 d2 d3 (by omega) 6 1 (by omega) hku1 (fun _ => hkd1) (by omega)]
   have h := moved_l0 we n mv ku kd l h0 h1 hn hn1 (by omega) (by omega) (by omega) u2 u3 d2 d3 ku.toNat 0 (by omega) (by omega) (by omega)
   rw [Int.add_zero] at h
   refine Ev.congr (fun k => ?_) (Ev.step (g := fun k => xaX.j0 k n mv false we l) (fun k => by simp only [xaX.j0, Bool.false_eq_true, if_false]) h)
   unfold xaX.f
   rw [if_neg hm, off we n l h0 h1, ho]; rfl
theorem nth_l0 (wd k first size : Int) (hk0 : 1 ≤ k) (hk1 : k ≤ 5) (hs0 : 28 ≤ size) (hs1 : size ≤ 31) (hf0 : 0 ≤ first) (hf1 : first ≤ 200000) (hw0 : 0 ≤ wd) (hw1 : wd ≤ 6) :
  ∀ (f : Nat) (j : Int), 0 ≤ j → j ≤ (wd - first % 7 + 7) % 7 → (wd - first % 7 + 7) % 7 - j = f →
  Ev (fun q => xcK.l0 q wd k first size (first + j)) (if (wd - first % 7 + 7) % 7 + 7 * (k - 1) ≥ size then first + ((wd - first % 7 + 7) % 7 + 7 * (k - 1) - 7) else first + ((wd - first % 7 + 7) % 7 + 7 * (k - 1)))
 | 0, j, a, b, c => by
  have e : j = (wd - first % 7 + 7) % 7 := by omega
  refine Ev.step (f := fun _ => some _) (fun q => ?_) (Ev.now _)
  simp only [xcK.l0]
  rw [← e, tm (by omega), if_pos (by omega)]
  rw [w64 (x := k - 1) (by omega) (by omega), w64 (x := 7 * (k - 1)) (by omega) (by omega), w64 (x := first + j + 7 * (k - 1)) (by omega) (by omega), w64 (x := first + size) (by omega) (by omega), w64 (x := first + j + 7 * (k - 1) - 7) (by omega) (by omega)]
  by_cases h5 : k = 5
  ·
   rw [if_pos h5]
   by_cases hg : first + j + 7 * (k - 1) ≥ first + size
   ·
    rw [if_pos hg, if_pos (by omega)]; congr 1; omega
   ·
    rw [if_neg hg, if_neg (by omega)]; congr 1; omega
  ·
   rw [if_neg h5, if_neg (by omega)]; congr 1; omega
 | f + 1, j, a, b, c => by
  have ih := nth_l0 wd k first size hk0 hk1 hs0 hs1 hf0 hf1 hw0 hw1 f (j + 1) (by omega) (by omega) (by omega)
  refine Ev.step (fun q => ?_) ih
  simp only [xcK.l0]
  rw [tm (by omega), if_neg (by omega), w64 (by omega) (by omega), show first + j + 1 = first + (j + 1) from by omega]
theorem nth (y m wd k : Int) (h0 : 1900 ≤ y) (h1 : y ≤ 2199) (hm0 : 1 ≤ m) (hm1 : m ≤ 12) (hk0 : 1 ≤ k) (hk1 : k ≤ 5) (hw0 : 0 ≤ wd) (hw1 : wd ≤ 6) : Ev (fun q => xcK.f q y m wd k) (M.nthDay y m wd k) := by
 have hl := M.xeH y m
 have hd : M.isDate y m 1 := ⟨h0, h1, hm0, hm1, by omega, by omega⟩
 have hr := M.xfU hd;have ho := Of y m 1
 rw [if_pos hd] at ho
 have hL := Length y m
 rw [if_pos ⟨h0, h1, hm0, hm1⟩] at hL
 have h := nth_l0 wd k (M.dayOf y m 1) (M.mlen y m) hk0 hk1 hl.1 hl.2 hr.1 (by omega) hw0 hw1 ((wd - M.dayOf y m 1 % 7 + 7) % 7).toNat 0 (by omega) (by omega) (by omega)
 rw [Int.add_zero] at h
 exact Ev.congr (fun q => rfl) (Ev.bind (f := fun q (t : Int × Int) => (xcV.f q y m).bind fun (s : Int × Int) => xcK.l0 q wd k t.1 s.1 t.1) ho (Ev.bind (f := fun q (s : Int × Int) => xcK.l0 q wd k (M.dayOf y m 1) s.1 (M.dayOf y m 1)) hL h))
theorem day (we : Int) (l : List S63) (a0 a1 a2 a3 a4 a5 a6 a7 a8 y : Int) (h0 : 0 ≤ we) (h1 : we ≤ 126) (hm : M.may ⟨a0, a1, a2, a3, a4, a5, a6, a7, a8⟩ = true) (h4 : ¬ a0 = 4) :
  ∃ p : Int × Bool, Ev (fun k => xcA.f k we l a0 a1 a2 a3 a4 a5 a6 a7 a8 y) p ∧ ∀ x, M.gives we ⟨a0, a1, a2, a3, a4, a5, a6, a7, a8⟩ y x = (p.2 && decide (p.1 = x)) := by
 have hyr := M.may_years hm h4
 simp only at hyr
 by_cases hi : a6 ≤ y ∧ y ≤ a7
 ·
  have hy0 : 1900 ≤ y := by omega
  have hy1 : y ≤ 2199 := by omega
  have start : ∀ p, Ev (fun k => xcA.j0 k y false we l a0 a1 a2 a3 a4 a5 a6 a7 a8) p → Ev (fun k => xcA.f k we l a0 a1 a2 a3 a4 a5 a6 a7 a8 y) p := by
   intro p h
   refine Ev.congr (fun k => ?_) h
   unfold xcA.f
   rw [if_neg (by omega), show decide (y > a7) = false from decide_eq_false (by omega)]
  have hin : (⟨a0, a1, a2, a3, a4, a5, a6, a7, a8⟩ : M.Rul).kind = 4 ∨ ((⟨a0, a1, a2, a3, a4, a5, a6, a7, a8⟩ : M.Rul).from_ ≤ y ∧ y ≤ (⟨a0, a1, a2, a3, a4, a5, a6, a7, a8⟩ : M.Rul).to_) := .inr hi
  by_cases k1 : a0 = 1
  ·
   subst k1
   have hm1 : 1 ≤ a1 ∧ a1 ≤ 12 ∧ 1 ≤ a2 := by simp [M.may] at hm; omega
   have ho := Of y a1 a2
   by_cases hd : M.isDate y a1 a2
   ·
    rw [if_pos hd] at ho
    have hr := M.xfU hd
    have hrd : M.rday ⟨1, a1, a2, a3, a4, a5, a6, a7, a8⟩ y = some (M.dayOf y a1 a2) := by unfold M.rday; rw [if_pos rfl]; simp only; rw [if_pos hd.2.2.2.2.2]
    refine ⟨(M.moved we (M.dayOf y a1 a2) a8, true), start _ ?_, fun x => ?_⟩
    ·
     refine Ev.step (fun k => ?_) (Ev.bind (f := fun k (t : Int × Int) => if t.2 = 0 then (xaX.f k we l t.1 a8).bind fun s => some (s, true) else some (0, false)) ho ?_)
     ·
      simp only [xcA.j0, Bool.false_eq_true, if_false, if_true]
     ·
      exact Ev.congr (fun k => if_pos rfl) (Ev.bind (f := fun _ s => some (s, true)) (moved we _ a8 l h0 h1 (by omega) (by omega)) (Ev.now _))
    ·
     unfold M.gives; rw [if_pos hin, hrd]; simp
   ·
    rw [if_neg hd] at ho
    have hrd : M.rday ⟨1, a1, a2, a3, a4, a5, a6, a7, a8⟩ y = none := by
     unfold M.rday; rw [if_pos rfl]; simp only
     rw [if_neg (fun h => hd ⟨hy0, hy1, hm1.1, hm1.2.1, hm1.2.2, h⟩)]
    refine ⟨(0, false), start _ ?_, fun x => ?_⟩
    ·
     refine Ev.step (fun k => ?_) (Ev.bind (f := fun k (t : Int × Int) => if t.2 = 0 then (xaX.f k we l t.1 a8).bind fun s => some (s, true) else some (0, false)) ho ?_)
     ·
      simp only [xcA.j0, Bool.false_eq_true, if_false, if_true]
     ·
      exact Ev.congr (fun k => if_neg (by decide)) (Ev.now _)
    ·
     unfold M.gives; rw [if_pos hin, hrd]; simp
  by_cases k2 : a0 = 2
  ·
   subst k2
   have hm1 : 1 ≤ a1 ∧ a1 ≤ 12 ∧ 0 ≤ a4 ∧ a4 ≤ 6 ∧ 1 ≤ a3 ∧ a3 ≤ 5 := by simp [M.may] at hm; omega
   have hrd : M.rday ⟨2, a1, a2, a3, a4, a5, a6, a7, a8⟩ y = some (M.nthDay y a1 a4 a3) := rfl
   have hn := nth y a1 a4 a3 hy0 hy1 hm1.1 hm1.2.1 hm1.2.2.2.2.1 hm1.2.2.2.2.2 hm1.2.2.1 hm1.2.2.2.1;have hr := M.xhU hm hy0 hy1 hrd
   have hb := L.xeG y (by omega) (by omega)
   have hb2 := L.xeG (y + 1) (by omega) (by omega)
   refine ⟨(M.moved we (M.nthDay y a1 a4 a3) a8, true), start _ ?_, fun x => ?_⟩
   ·
    refine Ev.step (fun k => ?_) (Ev.bind (f := fun k t => (xaX.f k we l t a8).bind fun s => some (s, true)) hn (Ev.bind (f := fun _ s => some (s, true)) (moved we _ a8 l h0 h1 (by omega) (by omega)) (Ev.now _)))
    simp only [xcA.j0, Bool.false_eq_true, if_false, show ¬ ((2 : Int) = 1) from by decide, if_true]
   ·
    unfold M.gives; rw [if_pos hin, hrd]; simp
  by_cases k3 : a0 = 3
  ·
   subst k3
   have hm1 : -100 ≤ a5 ∧ a5 ≤ 100 := by simp [M.may] at hm; omega
   have hrd : M.rday ⟨3, a1, a2, a3, a4, a5, a6, a7, a8⟩ y = some (M.xdH y + a5) := rfl
   have hr := M.xhU hm hy0 hy1 hrd
   have hb := L.xeG y (by omega) (by omega)
   have hb2 := L.xeG (y + 1) (by omega) (by omega)
   refine ⟨(M.moved we (M.xdH y + a5) a8, true), start _ ?_, fun x => ?_⟩
   ·
    refine Ev.step (fun k => ?_) (Ev.bind (f := fun _ s => some (s, true)) (moved we (M.xdH y + a5) a8 l h0 h1 (by omega) (by omega)) (Ev.now _))
    simp only [xcA.j0, Bool.false_eq_true, if_false, show ¬ ((3 : Int) = 1) from by decide, show ¬ ((3 : Int) = 2) from by decide, if_true]
    unfold xdV.f H.xgA
    rw [if_pos ⟨hy0, hy1⟩]
    simp only [Option.bind_some]
    rw [w64 (by omega) (by omega)]
   ·
    unfold M.gives; rw [if_pos hin, hrd]; simp
  ·
   unfold M.may at hm
   simp [k1, k2, k3, h4] at hm
 ·
  refine ⟨(0, false), ?_, fun x => ?_⟩
  ·
   refine Ev.congr (fun k => ?_) (Ev.step (g := fun k => xcA.j0 k y true we l a0 a1 a2 a3 a4 a5 a6 a7 a8) (f := fun _ => some ((0 : Int), false)) (fun k => by simp only [xcA.j0, if_true]) (Ev.now _))
   unfold xcA.f
   by_cases h2 : y < a6
   ·
    rw [if_pos h2]
   ·
    rw [if_neg h2, show decide (y > a7) = true from decide_eq_true (by omega)]
  ·
   unfold M.gives
   rw [if_neg (by simp only; intro h; rcases h with h | h; exact h4 h; exact hi h)]; rfl
theorem holiday_l1 (we : Int) (l : List S63) (x : Int) (a0 a1 a2 a3 a4 a5 a6 a7 a8 Y u v i : Int) (h0 : 0 ≤ we) (h1 : we ≤ 126) (hm : M.may ⟨a0, a1, a2, a3, a4, a5, a6, a7, a8⟩ = true) (h4 : ¬ a0 = 4) (hY : 1900 ≤ Y) (hY1 : Y ≤ 2199) (ans : Bool)
  (hrest : Ev (fun k => xbD.l0 k x (wrap64 (i + 1)) we l Y u v) ans) :
  ∀ (f : Nat) (y : Int), Y - 1 ≤ y → Y + 2 - y = f → Ev (fun k => xbD.l1 k x i y we l Y u v a0 a1 a2 a3 a4 a5 a6 a7 a8) ((decide (y ≤ Y + 1) && M.gives we ⟨a0, a1, a2, a3, a4, a5, a6, a7, a8⟩ y x) || (decide (y + 1 ≤ Y + 1) && M.gives we ⟨a0, a1, a2, a3, a4, a5, a6, a7, a8⟩ (y + 1) x) || (decide (y + 2 ≤ Y + 1) && M.gives we ⟨a0, a1, a2, a3, a4, a5, a6, a7, a8⟩ (y + 2) x) || ans)
 | 0, y, a, b => by
  rw [show decide (y ≤ Y + 1) = false from decide_eq_false (by omega), show decide (y + 1 ≤ Y + 1) = false from decide_eq_false (by omega), show decide (y + 2 ≤ Y + 1) = false from decide_eq_false (by omega),
   Bool.false_and, Bool.false_and, Bool.false_and, Bool.false_or, Bool.false_or, Bool.false_or]
  refine Ev.step (fun k => ?_) hrest
  simp only [xbD.l1]
  rw [w64 (x := Y + 1) (by omega) (by omega), if_neg (by omega)]
 | f + 1, y, a, b => by
  have ih := holiday_l1 we l x a0 a1 a2 a3 a4 a5 a6 a7 a8 Y u v i h0 h1 hm h4 hY hY1 ans hrest f (y + 1) (by omega) (by omega)
  obtain ⟨p, hp, hg⟩ := day we l a0 a1 a2 a3 a4 a5 a6 a7 a8 y h0 h1 hm h4
  refine Ev.step (fun k => ?_) (Ev.bind (f := fun k (t : Int × Bool) => if t.2 = true then (if t.1 = x then some true else xbD.l1 k x i (y + 1) we l Y u v a0 a1 a2 a3 a4 a5 a6 a7 a8) else xbD.l1 k x i (y + 1) we l Y u v a0 a1 a2 a3 a4 a5 a6 a7 a8) hp ?_)
  ·
   simp only [xbD.l1]
   rw [w64 (x := Y + 1) (by omega) (by omega), if_pos (by omega), w64 (x := y + 1) (by omega) (by omega)]
  ·
   rw [show decide (y ≤ Y + 1) = true from decide_eq_true (by omega), Bool.true_and, hg x]
   have e3 : (decide (y + 1 + 2 ≤ Y + 1)) = false := decide_eq_false (by omega)
   rw [e3, Bool.false_and, Bool.or_false, show y + 1 + 1 = y + 2 from by omega] at ih
   by_cases h2 : p.2 = true
   ·
    by_cases h3 : p.1 = x
    ·
     refine Ev.congr (f := fun _ => some true) (fun k => by rw [if_pos h2, if_pos h3]) ?_
     rw [h2, decide_eq_true h3, Bool.true_and, Bool.true_or, Bool.true_or, Bool.true_or]
     exact Ev.now _
    ·
     refine Ev.congr (fun k => by rw [if_pos h2, if_neg h3]) ?_
     rw [decide_eq_false h3, Bool.and_false, Bool.false_or]
     exact ih
   ·
    have h2' : p.2 = false := by simpa using h2
    refine Ev.congr (fun k => by rw [if_neg h2]) ?_
    rw [h2', Bool.false_and, Bool.false_or]
    exact ih
theorem gives_4 (we a1 a2 a3 a4 a5 a6 a7 a8 x : Int) (hm : M.may ⟨4, a1, a2, a3, a4, a5, a6, a7, a8⟩ = true) (hx : M.isDay x) :
  (M.gives we ⟨4, a1, a2, a3, a4, a5, a6, a7, a8⟩ (M.civY x - 1) x || M.gives we ⟨4, a1, a2, a3, a4, a5, a6, a7, a8⟩ (M.civY x) x || M.gives we ⟨4, a1, a2, a3, a4, a5, a6, a7, a8⟩ (M.civY x + 1) x) = decide (a2 = x) := by
 have hmv : a8 = 0 := by simp [M.may] at hm; omega
 subst hmv
 have hg : ∀ y, M.gives we ⟨4, a1, a2, a3, a4, a5, a6, a7, 0⟩ y x = (decide (M.civY a2 = y) && decide (a2 = x)) := by
  intro y
  unfold M.gives M.rday
  rw [if_pos (.inl rfl)]
  simp only [show ¬ ((4 : Int) = 1) from by decide, show ¬ ((4 : Int) = 2) from by decide, show ¬ ((4 : Int) = 3) from by decide, if_false]
  by_cases h : M.civY a2 = y
  ·
   rw [if_pos h]; simp [h, H.moved_0]
  ·
   rw [if_neg h]; simp [h]
 rw [hg, hg, hg]
 by_cases e : a2 = x
 ·
  subst e; simp
 ·
  simp [e]
theorem holiday_l0 (we : Int) (l : List S63) (x u v : Int) (h0 : 0 ≤ we) (h1 : we ≤ 126) (hm : ∀ r ∈ l, M.may (H.ru r) = true) (hlen : l.length ≤ 64) (hx : M.isDay x) :
  ∀ (f i : Nat), i ≤ l.length → l.length - i = f → Ev (fun k => xbD.l0 k x (i : Int) we l (M.civY x) u v) (M.hol we ((l.drop i).map H.ru) x)
 | 0, i, a, b => by
  have e : i = l.length := by omega
  refine Ev.step (f := fun _ => some (M.hol we ((l.drop i).map H.ru) x)) (fun k => ?_) (Ev.now _)
  simp only [xbD.l0]
  rw [if_neg (by omega), e, List.drop_length]; rfl
 | f + 1, i, a, b => by
  have hlt : i < l.length := by omega
  have ih := holiday_l0 we l x u v h0 h1 hm hlen hx f (i + 1) (by omega) (by omega)
  have hmi := hm l[i] (List.getElem_mem hlt)
  have hy := M.xdN x hx.1 hx.2
  have hy0 : 1900 ≤ M.civY x := hy.1
  have hy1 : M.civY x ≤ 2199 := hy.2.1
  rw [List.drop_eq_getElem_cons hlt, List.map_cons]
  have c1 : (i : Int) < (l.length : Int) := by omega
  have c2 : (0 : Int) ≤ (i : Int) := by omega
  have hw2 : wrap64 (M.civY x - 1) = M.civY x - 1 := w64 (by omega) (by omega)
  have hw : wrap64 ((i : Int) + 1) = ((i + 1 : Nat) : Int) := by rw [w64 (by omega) (by omega)]; push_cast; rfl
  have hcons : M.hol we (H.ru l[i] :: (l.drop (i + 1)).map H.ru) x = ((M.gives we (H.ru l[i]) (M.civY x - 1) x || M.gives we (H.ru l[i]) (M.civY x) x || M.gives we (H.ru l[i]) (M.civY x + 1) x) || M.hol we ((l.drop (i + 1)).map H.ru) x) := by
   simp [M.hol]
  rw [hcons]
  have hl0 : ∀ k, xbD.l0 (k + 1) x (i : Int) we l (M.civY x) u v = (if (l[i].f0) = 4 then (if (l[i].f2) = x then (some true) else (xbD.l0 k x (((i + 1 : Nat) : Int)) we l (M.civY x) u v)) else (xbD.l1 k x i (M.civY x - 1) we l (M.civY x) u v l[i].f0 l[i].f1 l[i].f2 l[i].f3 l[i].f4 l[i].f5 l[i].f6 l[i].f7 l[i].f8)) := by
   intro k
   rw [xbD.l0]
   rw [if_pos c1, if_pos c2, rd_eq l i hlt, hw, hw2]
  generalize l[i] = r at hmi hl0 ⊢
  obtain ⟨a0, a1, a2, a3, a4, a5, a6, a7, a8⟩ := r
  simp only [H.ru] at hmi hl0 ⊢
  by_cases k4 : a0 = 4
  ·
   subst k4
   rw [gives_4 we a1 a2 a3 a4 a5 a6 a7 a8 x hmi hx]
   by_cases h2 : a2 = x
   ·
    rw [decide_eq_true h2, Bool.true_or]
    refine Ev.step (f := fun _ => some true) (fun k => ?_) (Ev.now _)
    rw [hl0 k, if_pos rfl, if_pos h2]
   ·
    rw [decide_eq_false h2, Bool.false_or]
    refine Ev.step (fun k => ?_) ih
    rw [hl0 k, if_pos rfl, if_neg h2]
  ·
   have h := holiday_l1 we l x a0 a1 a2 a3 a4 a5 a6 a7 a8 (M.civY x) u v i h0 h1 hmi k4 hy0 hy1 _ (by rw [hw]; exact ih) 3 (M.civY x - 1) (by omega) (by omega)
   rw [show decide (M.civY x - 1 ≤ M.civY x + 1) = true from decide_eq_true (by omega), show decide (M.civY x - 1 + 1 ≤ M.civY x + 1) = true from decide_eq_true (by omega), show decide (M.civY x - 1 + 2 ≤ M.civY x + 1) = true from decide_eq_true (by omega),
    show M.civY x - 1 + 1 = M.civY x from by omega, show M.civY x - 1 + 2 = M.civY x + 1 from by omega] at h
   simp only [Bool.true_and] at h
   exact Ev.step (fun k => by rw [hl0 k, if_neg k4]) h
theorem holiday (we : Int) (l : List S63) (x : Int) (h0 : 0 ≤ we) (h1 : we ≤ 126) (hm : ∀ r ∈ l, M.may (H.ru r) = true) (hlen : l.length ≤ 64) (hx : M.isDay x) : Ev (fun k => xbD.f k we l x) (M.hol we (l.map H.ru) x) := by
 have hc := Civil x
 rw [if_pos (show 0 ≤ x ∧ x ≤ 109572 from hx)] at hc
 have h := holiday_l0 we l x (M.civM x) (M.civD x) h0 h1 hm hlen hx l.length 0 (by omega) (by omega)
 exact Ev.congr (fun k => rfl) (Ev.bind (f := fun k (t : Int × Int × Int × Int) => xbD.l0 k x 0 we l t.1 t.2.1 t.2.2.1) hc h)
end Go.Proofs.Ytoncignjcgjhhaa.R
namespace Go.Proofs.Ytoncignjcgjhhaa.H
open Go.RowKit Go.Maps Go.Proofs.YtoncignjcgjhhaaW.PrintWords Go.Proofs.YtoncignjcgjhhaaW.PrintLast Go.Proofs.YtoncignjcgjhhaaW.PrintMore
open Go.Proofs.Ytoncignjcgjhhaa.Q (S63 k63 z63)
theorem law3 : Keyed Try.prog 3 := int_keyed Try.underlying3
theorem zero3 (w : World) : (zeroValue 3).run Try.prog w = .ok (.int .i64 0) w := by kernel_rfl
theorem wf_i64 {x : Int} (h : L.i64 x) : (Lit.int .i64 x).wf = true := by
 have hmin : IntKind.i64.min = -9223372036854775808 := rfl
 have hmax : IntKind.i64.max = 9223372036854775807 := rfl
 unfold L.i64 at h
 simp only [Lit.wf, Bool.and_eq_true, decide_eq_true_eq]
 omega
def b01 (b : Bool) : Int := if b = true then 1 else 0
def MapOk (w : World) (b n : Nat) (f : Int → Bool) : Prop :=
  ∃ D : DataW Unit, w.ownsMap Try.prog 3 (plainElem Try.prog 3) b n D ∧ IsMap D ∧ ∀ x, L.i64 x → D.atKey (.int .i64 x) (.lit (.int .i64 0)) = .lit (.int .i64 (b01 (f x)))
theorem MapOk.lt {w : World} {b n : Nat} {f : Int → Bool} (h : MapOk w b n f) : b < w.heap.size := by obtain ⟨D, h, _⟩ := h; exact h.lt
theorem MapOk.mono {w : World} {b n n' : Nat} {f : Int → Bool} (h : MapOk w b n f) (hn : n ≤ n') : MapOk w b n' f := by
  obtain ⟨D, h, r⟩ := h; exact ⟨D, h.mono hn, r⟩
theorem MapOk.kept {w w1 : World} {b n : Nat} {f : Int → Bool} {row : Option Nat} (h : MapOk w b n f) (hg : w.grownBy w1 row) (hne : some b ≠ row) : MapOk w1 b n f := by
  obtain ⟨D, h, r⟩ := h; exact ⟨D, h.kept hg hne, r⟩
theorem MapOk.made (w : World) : MapOk (w.alloc (.map #[] 0)) w.heap.size 0 (fun _ => false) :=
  ⟨.map [], World.ownsMap_made _ _ _ _, ⟨[], rfl⟩, fun _ _ => rfl⟩
theorem wp_look (w : World) {ops : Array Oper} {rest : List Oper} {o : Oper} {a : Act} {Q : Exit → Act → World → Prop} (hg : o.guard = none) (m x : Operand) (hop : o.op = Op.lookup 127 m x false)
  (b n : Nat) (f : Int → Bool) (hm : a.eval m = .map (some b)) (hown : MapOk w b n f) (key : Int) (hx : a.eval x = .int .i64 key) (hk : L.i64 key) (hK : wpList Try.prog ops Q rest (a.put o.dst (.int .i64 (b01 (f key)))) w) :
  wpList Try.prog ops Q (o :: rest) a w := by
 obtain ⟨D, hD, _, hf⟩ := hown
 refine wpList_lookup_own_int w hg m x 127 hop 3 3 .i64 law3 Try.underlying127 Try.underlying3 (zero3 w) b n D hm hD _ _ hx (keyOf_int_mk Try.underlying3 (wf_i64 hk)) ?_
 intro c hc _
 rw [hf key hk] at hc
 have e : b01 (f key) = c := by injection hc with hc; injection hc
 rw [← e]; exact hK
theorem xgX (w : World) {ops : Array Oper} {rest : List Oper} {o : Oper} {a : Act} {Q : Exit → Act → World → Prop} (hg : o.guard = none) (m x v : Operand) (hop : o.op = Op.mapUpdate 127 m x v)
  (b n : Nat) (f : Int → Bool) (hm : a.eval m = .map (some b)) (hown : MapOk w b n f) (hn : n < maxLen) (key : Int) (hx : a.eval x = .int .i64 key) (hv : a.eval v = .int .i64 1) (hk : L.i64 key)
  (hK : ∀ w', MapOk w' b (n + 1) (fun y => f y || decide (y = key)) → w.grownBy w' (some b) → wpList Try.prog ops Q rest (a.put o.dst undef) w') :
  wpList Try.prog ops Q (o :: rest) a w := by
 obtain ⟨D, hD, hI, hf⟩ := hown
 refine wpList_mapUpdate_own w hg m x v 127 hop 3 3 law3 Try.underlying127 _ b n D hm hD hn _ _ _ hx hv (keyOf_int_mk Try.underlying3 (wf_i64 hk)) _ [] (plainElem_int Try.underlying3 (a := 1) (by decide)) ?_
 intro w' h' hgr
 refine hK w' ⟨_, h', hI.put _ _, fun y hy => ?_⟩ hgr
 by_cases e : y = key
 ·
  subst e
  rw [atKey_put_same (k := .int .i64 y) hI trivial]
  simp [b01]
 ·
  rw [atKey_put_other (k := .int .i64 key) (k' := .int .i64 y) (by intro h; injection h with h1 h2; exact e h2), hf y hy]
  simp [e]
structure Bk (w0 w : World) (bb md mb : Nat) (we : Int) (A : Option Addr) (c : Nat) (l : List S63) (n : Nat) (S f : Int → Bool) : Prop where
 bel : Below w0.heap.size w0 w
 blk : w.heap[bb]? = some (.cells #[.int .i64 we, .slice A l.length c, .map (some md), .map (some mb)] 129 (0, 0))
 gb : w0.heap.size ≤ bb
 gd : w0.heap.size ≤ md
 gm : w0.heap.size ≤ mb
 ne : md ≠ mb
 nd : bb ≠ md
 nm : bb ≠ mb
 dn : MapOk w md n S
 dy : MapOk w mb n f
section
variable {w0 w w1 : World} {bb md mb : Nat} {we : Int} {A : Option Addr} {c : Nat} {l : List S63} {n : Nat} {S f : Int → Bool}
theorem Bk.c0 (h : Bk w0 w bb md mb we A c l n S f) : w.cell? ⟨bb, 0, none⟩ = some (.int .i64 we) := (xaE h.blk 0).trans rfl
theorem Bk.c1 (h : Bk w0 w bb md mb we A c l n S f) : w.cell? ⟨bb, 1, none⟩ = some (.slice A l.length c) := (xaE h.blk 1).trans rfl
theorem Bk.c2 (h : Bk w0 w bb md mb we A c l n S f) : w.cell? ⟨bb, 2, none⟩ = some (.map (some md)) := (xaE h.blk 2).trans rfl
theorem Bk.c3 (h : Bk w0 w bb md mb we A c l n S f) : w.cell? ⟨bb, 3, none⟩ = some (.map (some mb)) := (xaE h.blk 3).trans rfl
theorem Bk.step (h : Bk w0 w bb md mb we A c l n S f) (hb : Below w.heap.size w w1) : Bk w0 w1 bb md mb we A c l n S f :=
  ⟨xaP h.bel hb, xaY h.blk hb, h.gb, h.gd, h.gm, h.ne, h.nd, h.nm, h.dn.kept (xeF hb none) (by simp), h.dy.kept (xeF hb none) (by simp)⟩
theorem Bk.alloc (h : Bk w0 w bb md mb we A c l n S f) (o : Obj) : Bk w0 (w.alloc o) bb md mb we A c l n S f := h.step (xaB (Below.refl _ _) o)
theorem Bk.drewN (h : Bk w0 w bb md mb we A c l n S f) (k : Nat) : Bk w0 (w.drewN k) bb md mb we A c l n S f := h.step (xaA (Below.refl _ _) k)
theorem Bk.drew (h : Bk w0 w bb md mb we A c l n S f) : Bk w0 w.drew bb md mb we A c l n S f := h.step (xgR (Below.refl _ _))
theorem Bk.mono (h : Bk w0 w bb md mb we A c l n S f) {n' : Nat} (hn : n ≤ n') : Bk w0 w bb md mb we A c l n' S f :=
  ⟨h.bel, h.blk, h.gb, h.gd, h.gm, h.ne, h.nd, h.nm, h.dn.mono hn, h.dy.mono hn⟩
theorem Bk.stored_d {S' : Int → Bool} (h : Bk w0 w bb md mb we A c l n S f) (hg : w.grownBy w1 (some md)) (hm : MapOk w1 md (n + 1) S') : Bk w0 w1 bb md mb we A c l (n + 1) S' f :=
  ⟨pw_below_grown h.bel (some md) h.bel.size hg (by intro k hk; injection hk with hk; subst hk; exact h.gd), blk_grown h.blk hg (by have := h.nd; simpa using this), h.gb, h.gd, h.gm, h.ne, h.nd, h.nm, hm,
    (h.dy.kept hg (by have := h.ne; simp; omega)).mono (by omega)⟩
theorem Bk.stored_m {f' : Int → Bool} (h : Bk w0 w bb md mb we A c l n S f) (hg : w.grownBy w1 (some mb)) (hm : MapOk w1 mb (n + 1) f') : Bk w0 w1 bb md mb we A c l (n + 1) S f' :=
  ⟨pw_below_grown h.bel (some mb) h.bel.size hg (by intro k hk; injection hk with hk; subst hk; exact h.gm), blk_grown h.blk hg (by have := h.nm; simpa using this), h.gb, h.gd, h.gm, h.ne, h.nd, h.nm,
    (h.dn.kept hg (by have := h.ne; simp; omega)).mono (by omega), hm⟩
end
structure Ok (w0 : World) (we : Int) (A : Option Addr) (l : List S63) : Prop where
 rd : Kd.C k63 w0 A l.length l
 h0 : 0 ≤ we
 h1 : we ≤ 126
 len : l.length ≤ 64
 wf : ∀ x ∈ l, wfS x
 may : ∀ x ∈ l, M.may (ru x) = true
end Go.Proofs.Ytoncignjcgjhhaa.H
namespace Go.Proofs.Ytoncignjcgjhhaa.Q
open Go.RowKit Go.Proofs.YtoncignjcgjhhaaW.PrintWords Go.Proofs.YtoncignjcgjhhaaW.PrintLast Go.Proofs.YtoncignjcgjhhaaW.PrintMore
attribute [local go_sem] xcC xcB xcR xcQ xbX xbW xcF xcE   -- for this text's walks alone
-- NOT PRINTED: function 70 (cal_begin)
def cal_is.f (a0 : Int) : Option (Bool) := (xbL.f a0 0 109572).bind fun t154 => (some t154)
set_option maxHeartbeats 8000000 in
set_option maxRecDepth 100000 in
theorem cal_is.calls (a0 : Int) (r : Bool) (w : World) (h : cal_is.f a0 = some r) :
  Calls Try.prog 71 #[.int .i64 a0] w fun e w' => e = .returned (.bool r) ∧ Drawn0 w w' := by
 have H : ((xbL.f a0 0 109572).bind fun t154 => (some t154)) = some r := h
 clear h;replace H := Option.bind_eq_some_iff.mp H
 obtain ⟨t154, A20, H⟩ := H
 replace H : (some t154) = some r := H
 have A2 := Aside0.mk A20;clear A20
 obtain rfl := Option.some.inj H
 go_enter Try.func71, Try.ntmps71
 go_wp2_with (first | ((with_reducible refine xaQ (f := 83) rfl ?_); refine goesL_ (some 4) rfl rfl Try.func83 (by kernel_rfl) rfl #[.int .i64 a0, .int .i64 0, .int .i64 109572] rfl (by (try simp only [List.map_toArray, List.map_cons, List.map_nil]); first | done | rfl | (simp only [List.length_drop, List.length_take]; rfl)) ?_; (with_reducible refine (xbL.calls a0 0 109572 t154 _ A2.out).mono ?_); rintro e w' ⟨rfl, ⟨nd, rfl⟩⟩; refine ⟨_, rfl, ?_⟩))
 go_ret
 exact ⟨by first | rfl | (simp; done) | (simp [*]; done), by repeat (first | exact Drawn0.refl _ | apply Drawn0.step)⟩
-- NOT PRINTED: function 107 (cal_book_off)
-- NOT PRINTED: function 132 (cal_book_moved)
-- NOT PRINTED: function 109 (cal_book_year)
-- NOT PRINTED: function 75 (cal_book_holiday)
-- NOT PRINTED: function 72 (cal_book_open)
end Go.Proofs.Ytoncignjcgjhhaa.Q
namespace Go.Proofs.Ytoncignjcgjhhaa.H
open Go.RowKit Go.Maps Go.Proofs.YtoncignjcgjhhaaW.PrintWords Go.Proofs.YtoncignjcgjhhaaW.PrintLast Go.Proofs.YtoncignjcgjhhaaW.PrintMore
open Go.Proofs.Ytoncignjcgjhhaa.Q (S63 k63 z63)
def told (o : Option Int) : Int × Bool := match o with | some x => (x, true) | none => (0, false)
theorem dayC_1 (a1 a2 a3 a4 a5 a6 a7 a8 y : Int) (hm : M.may ⟨1, a1, a2, a3, a4, a5, a6, a7, a8⟩ = true) (h0 : 1900 ≤ y) (h1 : y ≤ 2199) (p : Option Int) (hp : M.rday ⟨1, a1, a2, a3, a4, a5, a6, a7, a8⟩ y = p) (w : World) :
  Calls Try.prog 155 #[.agg #[.int .i64 1, .int .i64 a1, .int .i64 a2, .int .i64 a3, .int .i64 a4, .int .i64 a5, .int .i64 a6, .int .i64 a7, .int .i64 a8], .int .i64 y] w fun e w' => e = .returned (.tuple #[.int .i64 (told p).1, .bool (told p).2]) ∧ Below w.heap.size w w' := by
 subst hp
 obtain ⟨k, hk⟩ := (L.day_fixed y hm h0 h1).rounds
 exact Q.xfR.calls k 1 a1 a2 a3 a4 a5 a6 a7 a8 y _ _ w hk
theorem dayC_2 (a1 a2 a3 a4 a5 a6 a7 a8 y : Int) (hm : M.may ⟨2, a1, a2, a3, a4, a5, a6, a7, a8⟩ = true) (h0 : 1900 ≤ y) (h1 : y ≤ 2199) (p : Option Int) (hp : M.rday ⟨2, a1, a2, a3, a4, a5, a6, a7, a8⟩ y = p) (w : World) :
  Calls Try.prog 158 #[.agg #[.int .i64 2, .int .i64 a1, .int .i64 a2, .int .i64 a3, .int .i64 a4, .int .i64 a5, .int .i64 a6, .int .i64 a7, .int .i64 a8], .int .i64 y] w fun e w' => e = .returned (.tuple #[.int .i64 (told p).1, .bool (told p).2]) ∧ Below w.heap.size w w' := by
 subst hp
 obtain ⟨k, hk⟩ := (L.day_nth y hm h0 h1).rounds
 exact Q.xgG.calls k 2 a1 a2 a3 a4 a5 a6 a7 a8 y _ _ w hk
theorem dayC_3 (a1 a2 a3 a4 a5 a6 a7 a8 y : Int) (hm : M.may ⟨3, a1, a2, a3, a4, a5, a6, a7, a8⟩ = true) (h0 : 1900 ≤ y) (h1 : y ≤ 2199) (p : Option Int) (hp : M.rday ⟨3, a1, a2, a3, a4, a5, a6, a7, a8⟩ y = p) (w : World) :
  Calls Try.prog 160 #[.agg #[.int .i64 3, .int .i64 a1, .int .i64 a2, .int .i64 a3, .int .i64 a4, .int .i64 a5, .int .i64 a6, .int .i64 a7, .int .i64 a8], .int .i64 y] w fun e w' => e = .returned (.tuple #[.int .i64 (told p).1, .bool (told p).2]) ∧ Below w.heap.size w w' := by
 subst hp
 exact Q.xeW.calls 3 a1 a2 a3 a4 a5 a6 a7 a8 y _ _ w (L.day_easter y hm h0 h1)
theorem dayC_4 (a1 a2 a3 a4 a5 a6 a7 a8 y : Int) (hm : M.may ⟨4, a1, a2, a3, a4, a5, a6, a7, a8⟩ = true) (b : Bool) (hb : decide (M.civY a2 = y) = b) (w : World) :
  Calls Try.prog 163 #[.agg #[.int .i64 4, .int .i64 a1, .int .i64 a2, .int .i64 a3, .int .i64 a4, .int .i64 a5, .int .i64 a6, .int .i64 a7, .int .i64 a8], .int .i64 y] w fun e w' => e = .returned (.tuple #[.int .i64 a2, .bool b]) ∧ Below w.heap.size w w' := by
 subst hb
 obtain ⟨k, hk⟩ := (L.day_single y hm).rounds
 exact Q.xfK.calls k 4 a1 a2 a3 a4 a5 a6 a7 a8 y _ _ w hk
theorem xdW (n : Int) (r : Bool) (hr : decide (0 ≤ n ∧ n ≤ 109572) = r) (w : World) : Calls Try.prog 71 #[.int .i64 n] w fun e w' => e = .returned (.bool r) ∧ Drawn0 w w' :=
  Q.cal_is.calls n r w (by unfold Q.cal_is.f; rw [L.within, hr]; rfl)
def Upd (we y : Int) (f f' : Int → Bool) (rs : List M.Rul) : Prop := ∀ x, 0 ≤ x → x ≤ 109572 → f' x = (f x || rs.any (fun r => M.gives we r y x))
theorem Upd.nil (we y : Int) (f : Int → Bool) : Upd we y f f [] := fun x _ _ => by simp
theorem Upd.none_ {we y : Int} {f f' : Int → Bool} {rs : List M.Rul} {r : M.Rul} (h : Upd we y f f' rs) (hg : ∀ x, 0 ≤ x → x ≤ 109572 → M.gives we r y x = false) : Upd we y f f' (rs ++ [r]) := fun x a b => by
  rw [h x a b]; simp [hg x a b]
theorem Upd.some_ {we y n : Int} {f f' : Int → Bool} {rs : List M.Rul} {r : M.Rul} (h : Upd we y f f' rs) (hg : ∀ x, M.gives we r y x = decide (n = x)) : Upd we y f (fun z => f' z || decide (z = n)) (rs ++ [r]) := fun x a b => by
 show (f' x || decide (x = n)) = _
 rw [h x a b, List.any_append]
 simp only [List.any_cons, List.any_nil, Bool.or_false, hg, Bool.or_assoc, eq_comm (a := x)]
theorem take_one {l : List S63} {i : Nat} (hi : i < l.length) {r : S63} (hr : l[i] = r) : (l.map ru).take (i + 1) = (l.map ru).take i ++ [ru r] := by
 subst hr
 rw [List.take_succ_eq_append_getElem (by simpa using hi), List.getElem_map]
theorem xhZ {we y : Int} {r : M.Rul} (h : ¬ (r.kind = 4 ∨ (r.from_ ≤ y ∧ y ≤ r.to_))) (x : Int) : M.gives we r y x = false := by unfold M.gives; rw [if_neg h]
theorem xgQ {we y : Int} {r : M.Rul} (h : M.rday r y = none) (x : Int) : M.gives we r y x = false := by unfold M.gives; rw [h]; split <;> rfl
theorem xeY {we y d n : Int} {r : M.Rul} (hi : r.kind = 4 ∨ (r.from_ ≤ y ∧ y ≤ r.to_)) (h : M.rday r y = some d) (hn : M.moved we d r.mv = n) (x : Int) : M.gives we r y x = decide (n = x) := by
  unfold M.gives; rw [if_pos hi, h]; simp only [hn]
theorem xhK {r : M.Rul} {y d : Int} (hm : M.may r = true) (h0 : 1900 ≤ y) (h1 : y ≤ 2199) (h : M.rday r y = some d) : 0 ≤ d ∧ d ≤ 109700 := by
 have hb := M.xfX; have hb2 := M.xeD h0
 unfold M.may at hm
 unfold M.rday at h
 by_cases k1 : r.kind = 1
 ·
  rw [if_pos k1] at hm h
  simp only [Bool.and_eq_true, decide_eq_true_eq] at hm
  by_cases hd : r.day ≤ M.mlen y r.month
  ·
   rw [if_pos hd] at h; injection h with h
   have := M.xfU (show M.isDate y r.month r.day from ⟨h0, h1, hm.1.1, hm.1.2.1, hm.1.2.2.2.2.2.1, hd⟩)
   omega
  ·
   rw [if_neg hd] at h; cases h
 ·
  rw [if_neg k1] at hm h
  by_cases k2 : r.kind = 2
  ·
   rw [if_pos k2] at hm h
   simp only [Bool.and_eq_true, decide_eq_true_eq] at hm
   injection h with h
   have hl := M.xeH y r.month
   have := M.xfU (show M.isDate y r.month 1 from ⟨h0, h1, hm.1.2.2.1, hm.1.2.2.2.1, by omega, by omega⟩)
   unfold M.nthDay at h
   simp only at h
   split at h <;> omega
  ·
   rw [if_neg k2] at hm h
   by_cases k3 : r.kind = 3
   ·
    rw [if_pos k3] at hm h
    simp only [Bool.and_eq_true, decide_eq_true_eq] at hm
    injection h with h
    obtain ⟨a, b, c, e⟩ := M.xfT y h0 h1
    have := M.xfU a
    by_cases hy : y = 1900
    ·
     subst hy
     have : M.xdH 1900 = 104 := by decide
     omega
    ·
     have e1 : M.dayOf y 3 22 ≥ M.before y := by have := M.xgT y 3; unfold M.dayOf; omega
     unfold M.xdH at *; omega
   ·
    rw [if_neg k3] at hm h
    by_cases k4 : r.kind = 4
    ·
     rw [if_pos k4] at hm
     simp only [decide_eq_true_eq] at hm
     split at h
     ·
      injection h with h; omega
     ·
      cases h
    ·
     rw [if_neg k4] at hm; cases hm
theorem xhB {we d mv : Int} (h : 0 ≤ d) (h1 : d ≤ 109700) : -7 ≤ M.moved we d mv ∧ M.moved we d mv ≤ 110000 := by
 unfold M.moved
 have := M.xhF we d mv 6 1 (by omega)
 split
 ·
  omega
 ·
  split
  ·
   omega
  ·
   omega
theorem year_seen (w0 w : World) (bb md mb : Nat) (we : Int) (A : Option Addr) (c : Nat) (l : List S63) (n : Nat) (S f : Int → Bool) (y : Int) (hB : Bk w0 w bb md mb we A c l n S f) (hy : L.i64 y) (hs : S y = true) :
  Calls Try.prog 109 #[.pointer (some ⟨bb, 0, none⟩), .int .i64 y] w fun e w' => e = .returned (.tuple #[]) ∧ w = w' := by
 have hc2 := hB.c2;have HB := Aside0.mk hB;have HS := Aside0.mk hs;clear hB hs
 go_enter Try.func109, Try.ntmps109
 go_wp2_with (at_lookup; refine wp_look _ rfl _ _ rfl md n S rfl HB.out.dn _ rfl hy ?_; rw [HS.out]; simp only [b01, if_true])
 refine bodyPost_ret (results_none rfl _ _ _) rfl ?_
 exact ⟨rfl, rfl⟩
set_option maxHeartbeats 4000000 in
set_option maxRecDepth 100000 in
theorem year_new (w0 w : World) (bb md mb : Nat) (we : Int) (A : Option Addr) (c : Nat) (l : List S63) (n : Nat) (S f : Int → Bool) (y : Int) (hB : Bk w0 w bb md mb we A c l n S f) (hO : Ok w0 we A l) (h0 : 1900 ≤ y) (h1 : y ≤ 2199) (hs : S y = false) (hn : n + 100 < maxLen) :
  Calls Try.prog 109 #[.pointer (some ⟨bb, 0, none⟩), .int .i64 y] w fun e w' => e = .returned (.tuple #[]) ∧ ∃ f', Bk w0 w' bb md mb we A c l (n + 65) (fun z => S z || decide (z = y)) f' ∧ Upd we y f f' (l.map ru) := by
 have hc2 := hB.c2;have HB := Aside0.mk hB;have HS := Aside0.mk hs;have HO := Aside0.mk hO
 have hwe0 := hO.h0; have hwe1 := hO.h1; have hlen := hO.len
 have hy64 : L.i64 y := by unfold L.i64; omega
 clear hB hs hO
 go_enter Try.func109, Try.ntmps109
 go_wp2_with (first | (at_lookup; refine wp_look _ rfl _ _ rfl md n S rfl HB.out.dn _ rfl hy64 ?_; rw [HS.out]; simp only [b01, Bool.false_eq_true, if_false]) | (at_mapUpdate; refine xgX _ rfl _ _ _ rfl md n S rfl HB.out.dn (by omega) _ rfl rfl hy64 ?_; intro w1 hm1 hg1; have HB1 := Aside0.mk (HB.out.stored_d hg1 hm1); clear hm1 hg1; have hd1 := HB1.out.c1))
 go_loopg [26] (l.length) (fun kq v w' => ∃ i : Nat, i ≤ l.length ∧ kq + i = l.length ∧ v = .int .i64 i ∧ Aside0 (∃ f', Bk w0 w' bb md mb we A c l (n + 1 + i) (fun z => S z || decide (z = y)) f' ∧ Upd we y f f' ((l.map ru).take i)))
 case atStart => exact ⟨0, by omega, by omega, rfl, ⟨f, HB1.out, by simpa using Upd.nil we y f⟩⟩
 case round =>
  obtain ⟨i, hi, hk, rfl, HF⟩ := hrel
  obtain ⟨f', hb', hu'⟩ := HF.out
  have HB2 := Aside0.mk hb';have HU := Aside0.mk hu';clear hb' hu' HF HB1 hd1 HB hc2
  by_cases hlt : i < l.length
  ·
   obtain ⟨ad, a0, a1, a2, a3, a4, a5, a6, a7, a8, rfl, hx, x0, x1, x2, x3, x4, x5, x6, x7, x8⟩ := rule_at HO.out.rd i hlt wr HB2.out.bel
   have hm := HO.out.may l[i] (List.getElem_mem hlt)
   rw [hx] at hm
   have ht := take_one hlt hx
   simp only [ru] at hm ht
   have HM := Aside0.mk hm;have HT := Aside0.mk ht;clear hm ht hx
   by_cases k1 : a0 = 1
   ·
    subst k1;have hmeth := day_132
    by_cases hyr : a6 ≤ y ∧ y ≤ a7
    ·
     have hyb : decide (a6 ≤ y ∧ y ≤ a7) = true := by simpa using hyr
     have HYB := Aside0.mk hyb; have HYR := Aside0.mk hyr; clear hyb hyr
     go_wp2_with fail
     refine (xdS _ _ _ _ HYB.out _).mono ?_; rintro e w' ⟨rfl, ⟨n0, rfl⟩⟩
     go_wp2_with fail
     refine (kind_1 _ _ _ _ _ _ _ _ _).mono ?_; rintro e w3 ⟨rfl, hb3⟩
     have HB3 : Aside0 (Bk w0 w3 bb md mb we (some ad) c l (n + 1 + i) (fun z => S z || decide (z = y)) f') := ⟨Bk.step (by repeat (first | exact HB2.out | refine Bk.drewN ?_ _ | refine Bk.drew ?_ | refine Bk.alloc ?_ _)) hb3⟩; have HX3 : Aside0 (w3.heap[wr.heap.size]? = some (.cells #[.int .i64 1, .int .i64 a1, .int .i64 a2, .int .i64 a3, .int .i64 a4, .int .i64 a5, .int .i64 a6, .int .i64 a7, .int .i64 a8] 63 (0, 0))) := ⟨xaY (by repeat (first | exact xgV _ _ | refine xaG ?_ _ | refine xaJ ?_)) hb3⟩; clear hb3
     go_wp2_with fail
     cases hp : M.rday ⟨1, a1, a2, a3, a4, a5, a6, a7, a8⟩ y with
     | none =>
      have HD := Aside0.mk hp; clear hp
      refine (dayC_1 _ _ _ _ _ _ _ _ _ HM.out h0 h1 _ HD.out _).mono ?_; rintro e w4 ⟨rfl, hb4⟩
      have HB4 := Aside0.mk (Bk.step (w1 := w4) HB3.out hb4); have hc8 : w4.cell? ⟨wr.heap.size, 8, none⟩ = some (.int .i64 a8) := (xaE (xaY HX3.out hb4) 8).trans rfl; clear hb4
      simp only [told]
      go_wp2_with fail
      go_roundg (gk - 1)
      case measure => omega
      case rel => exact ⟨i + 1, by omega, by omega, by go_num, ⟨f', Bk.mono (n := n + 1 + i) (HB4.out) (by omega), by rw [HT.out]; exact HU.out.none_ (fun x _ _ => xgQ HD.out x)⟩⟩
     | some d =>
      have HD := Aside0.mk hp; clear hp
      refine (dayC_1 _ _ _ _ _ _ _ _ _ HM.out h0 h1 _ HD.out _).mono ?_; rintro e w4 ⟨rfl, hb4⟩
      have HB4 := Aside0.mk (Bk.step (w1 := w4) HB3.out hb4); have hc8 : w4.cell? ⟨wr.heap.size, 8, none⟩ = some (.int .i64 a8) := (xaE (xaY HX3.out hb4) 8).trans rfl; clear hb4
      simp only [told]
      have hrng := xhK HM.out h0 h1 HD.out
      obtain ⟨nn, hnn⟩ : ∃ nn, M.moved we d a8 = nn := ⟨_, rfl⟩
      have hnr := xhB (we := we) (mv := a8) hrng.1 hrng.2
      rw [hnn] at hnr
      have HN := Aside0.mk hnn;clear hnn
      have hrng0 := hrng.1; have hrng1 := hrng.2; have hnr0 := hnr.1; have hnr1 := hnr.2; clear hrng hnr
      go_wp2_with fail
      refine (xgE _ we _ _ _ HB4.out.c0 hwe0 hwe1 (by omega) (by omega)).mono ?_; rintro e w5 ⟨rfl, rfl⟩; rw [HN.out]
      go_wp2_with fail
      by_cases hd : 0 ≤ nn ∧ nn ≤ 109572
      ·
       have hdb : decide (0 ≤ nn ∧ nn ≤ 109572) = true := by simpa using hd
       have hn64 : L.i64 nn := by unfold L.i64; omega
       have HDB := Aside0.mk hdb; clear hdb hd
       refine (xdW _ _ HDB.out _).mono ?_; rintro e w6 ⟨rfl, ⟨nq, rfl⟩⟩
       have HB5 := Aside0.mk (HB4.out.drewN nq); have hc3 := HB5.out.c3
       go_wp2_with (at_mapUpdate; refine xgX _ rfl _ _ _ rfl mb (n + 1 + i) f' rfl HB5.out.dy (by omega) _ rfl rfl hn64 ?_; intro w7 hm7 hg7; have HB7 := Aside0.mk (HB5.out.stored_m hg7 hm7); clear hm7 hg7)
       go_roundg (gk - 1)
       case measure => omega
       case rel => exact ⟨i + 1, by omega, by omega, by go_num, ⟨_, HB7.out, by rw [HT.out]; exact HU.out.some_ (fun x => xeY (Or.inr HYR.out) HD.out HN.out x)⟩⟩
      ·
       have hdb : decide (0 ≤ nn ∧ nn ≤ 109572) = false := by simpa using hd
       have HDB := Aside0.mk hdb; have HND := Aside0.mk hd; clear hdb hd
       refine (xdW _ _ HDB.out _).mono ?_; rintro e w6 ⟨rfl, ⟨nq, rfl⟩⟩
       have HB5 := Aside0.mk (HB4.out.drewN nq)
       go_wp2_with fail
       go_roundg (gk - 1)
       case measure => omega
       case rel => exact ⟨i + 1, by omega, by omega, by go_num, ⟨f', Bk.mono (n := n + 1 + i) (HB5.out) (by omega), by rw [HT.out]; exact HU.out.none_ (fun x _ _ => by rw [xeY (Or.inr HYR.out) HD.out HN.out x]; rw [decide_eq_false_iff_not]; intro e; have := HND.out; omega)⟩⟩
    ·
     have hyb : decide (a6 ≤ y ∧ y ≤ a7) = false := by simpa using hyr
     have HYB := Aside0.mk hyb; have HYR := Aside0.mk hyr; clear hyb hyr
     go_wp2_with fail
     refine (xdS _ _ _ _ HYB.out _).mono ?_; rintro e w' ⟨rfl, ⟨n0, rfl⟩⟩
     go_wp2_with fail
     go_roundg (gk - 1)
     case measure => omega
     case rel => exact ⟨i + 1, by omega, by omega, by go_num, ⟨f', Bk.mono (n := n + 1 + i) (by repeat (first | exact HB2.out | refine Bk.drewN ?_ _ | refine Bk.drew ?_ | refine Bk.alloc ?_ _)) (by omega), by rw [HT.out]; exact HU.out.none_ (fun x _ _ => xhZ (fun h => by rcases h with h | h; exact absurd h (by simp); exact HYR.out h) x)⟩⟩
   ·
    by_cases k2 : a0 = 2
    ·
     subst k2;have hmeth := day_133
     by_cases hyr : a6 ≤ y ∧ y ≤ a7
     ·
      have hyb : decide (a6 ≤ y ∧ y ≤ a7) = true := by simpa using hyr
      have HYB := Aside0.mk hyb; have HYR := Aside0.mk hyr; clear hyb hyr
      go_wp2_with fail
      refine (xdS _ _ _ _ HYB.out _).mono ?_; rintro e w' ⟨rfl, ⟨n0, rfl⟩⟩
      go_wp2_with fail
      refine (kind_2 _ _ _ _ _ _ _ _ _).mono ?_; rintro e w3 ⟨rfl, hb3⟩
      have HB3 : Aside0 (Bk w0 w3 bb md mb we (some ad) c l (n + 1 + i) (fun z => S z || decide (z = y)) f') := ⟨Bk.step (by repeat (first | exact HB2.out | refine Bk.drewN ?_ _ | refine Bk.drew ?_ | refine Bk.alloc ?_ _)) hb3⟩; have HX3 : Aside0 (w3.heap[wr.heap.size]? = some (.cells #[.int .i64 2, .int .i64 a1, .int .i64 a2, .int .i64 a3, .int .i64 a4, .int .i64 a5, .int .i64 a6, .int .i64 a7, .int .i64 a8] 63 (0, 0))) := ⟨xaY (by repeat (first | exact xgV _ _ | refine xaG ?_ _ | refine xaJ ?_)) hb3⟩; clear hb3
      go_wp2_with fail
      cases hp : M.rday ⟨2, a1, a2, a3, a4, a5, a6, a7, a8⟩ y with
      | none =>
       have HD := Aside0.mk hp; clear hp
       refine (dayC_2 _ _ _ _ _ _ _ _ _ HM.out h0 h1 _ HD.out _).mono ?_; rintro e w4 ⟨rfl, hb4⟩
       have HB4 := Aside0.mk (Bk.step (w1 := w4) HB3.out hb4); have hc8 : w4.cell? ⟨wr.heap.size, 8, none⟩ = some (.int .i64 a8) := (xaE (xaY HX3.out hb4) 8).trans rfl; clear hb4
       simp only [told]
       go_wp2_with fail
       go_roundg (gk - 1)
       case measure => omega
       case rel => exact ⟨i + 1, by omega, by omega, by go_num, ⟨f', Bk.mono (n := n + 1 + i) (HB4.out) (by omega), by rw [HT.out]; exact HU.out.none_ (fun x _ _ => xgQ HD.out x)⟩⟩
      | some d =>
       have HD := Aside0.mk hp; clear hp
       refine (dayC_2 _ _ _ _ _ _ _ _ _ HM.out h0 h1 _ HD.out _).mono ?_; rintro e w4 ⟨rfl, hb4⟩
       have HB4 := Aside0.mk (Bk.step (w1 := w4) HB3.out hb4); have hc8 : w4.cell? ⟨wr.heap.size, 8, none⟩ = some (.int .i64 a8) := (xaE (xaY HX3.out hb4) 8).trans rfl; clear hb4
       simp only [told]
       have hrng := xhK HM.out h0 h1 HD.out
       obtain ⟨nn, hnn⟩ : ∃ nn, M.moved we d a8 = nn := ⟨_, rfl⟩
       have hnr := xhB (we := we) (mv := a8) hrng.1 hrng.2
       rw [hnn] at hnr
       have HN := Aside0.mk hnn;clear hnn
       have hrng0 := hrng.1; have hrng1 := hrng.2; have hnr0 := hnr.1; have hnr1 := hnr.2; clear hrng hnr
       go_wp2_with fail
       refine (xgE _ we _ _ _ HB4.out.c0 hwe0 hwe1 (by omega) (by omega)).mono ?_; rintro e w5 ⟨rfl, rfl⟩; rw [HN.out]
       go_wp2_with fail
       by_cases hd : 0 ≤ nn ∧ nn ≤ 109572
       ·
        have hdb : decide (0 ≤ nn ∧ nn ≤ 109572) = true := by simpa using hd
        have hn64 : L.i64 nn := by unfold L.i64; omega
        have HDB := Aside0.mk hdb; clear hdb hd
        refine (xdW _ _ HDB.out _).mono ?_; rintro e w6 ⟨rfl, ⟨nq, rfl⟩⟩
        have HB5 := Aside0.mk (HB4.out.drewN nq); have hc3 := HB5.out.c3
        go_wp2_with (at_mapUpdate; refine xgX _ rfl _ _ _ rfl mb (n + 1 + i) f' rfl HB5.out.dy (by omega) _ rfl rfl hn64 ?_; intro w7 hm7 hg7; have HB7 := Aside0.mk (HB5.out.stored_m hg7 hm7); clear hm7 hg7)
        go_roundg (gk - 1)
        case measure => omega
        case rel => exact ⟨i + 1, by omega, by omega, by go_num, ⟨_, HB7.out, by rw [HT.out]; exact HU.out.some_ (fun x => xeY (Or.inr HYR.out) HD.out HN.out x)⟩⟩
       ·
        have hdb : decide (0 ≤ nn ∧ nn ≤ 109572) = false := by simpa using hd
        have HDB := Aside0.mk hdb; have HND := Aside0.mk hd; clear hdb hd
        refine (xdW _ _ HDB.out _).mono ?_; rintro e w6 ⟨rfl, ⟨nq, rfl⟩⟩
        have HB5 := Aside0.mk (HB4.out.drewN nq)
        go_wp2_with fail
        go_roundg (gk - 1)
        case measure => omega
        case rel => exact ⟨i + 1, by omega, by omega, by go_num, ⟨f', Bk.mono (n := n + 1 + i) (HB5.out) (by omega), by rw [HT.out]; exact HU.out.none_ (fun x _ _ => by rw [xeY (Or.inr HYR.out) HD.out HN.out x]; rw [decide_eq_false_iff_not]; intro e; have := HND.out; omega)⟩⟩
     ·
      have hyb : decide (a6 ≤ y ∧ y ≤ a7) = false := by simpa using hyr
      have HYB := Aside0.mk hyb; have HYR := Aside0.mk hyr; clear hyb hyr
      go_wp2_with fail
      refine (xdS _ _ _ _ HYB.out _).mono ?_; rintro e w' ⟨rfl, ⟨n0, rfl⟩⟩
      go_wp2_with fail
      go_roundg (gk - 1)
      case measure => omega
      case rel => exact ⟨i + 1, by omega, by omega, by go_num, ⟨f', Bk.mono (n := n + 1 + i) (by repeat (first | exact HB2.out | refine Bk.drewN ?_ _ | refine Bk.drew ?_ | refine Bk.alloc ?_ _)) (by omega), by rw [HT.out]; exact HU.out.none_ (fun x _ _ => xhZ (fun h => by rcases h with h | h; exact absurd h (by simp); exact HYR.out h) x)⟩⟩
    ·
     by_cases k3 : a0 = 3
     ·
      subst k3;have hmeth := day_134
      by_cases hyr : a6 ≤ y ∧ y ≤ a7
      ·
       have hyb : decide (a6 ≤ y ∧ y ≤ a7) = true := by simpa using hyr
       have HYB := Aside0.mk hyb; have HYR := Aside0.mk hyr; clear hyb hyr
       go_wp2_with fail
       refine (xdS _ _ _ _ HYB.out _).mono ?_; rintro e w' ⟨rfl, ⟨n0, rfl⟩⟩
       go_wp2_with fail
       refine (kind_3 _ _ _ _ _ _ _ _ _).mono ?_; rintro e w3 ⟨rfl, hb3⟩
       have HB3 : Aside0 (Bk w0 w3 bb md mb we (some ad) c l (n + 1 + i) (fun z => S z || decide (z = y)) f') := ⟨Bk.step (by repeat (first | exact HB2.out | refine Bk.drewN ?_ _ | refine Bk.drew ?_ | refine Bk.alloc ?_ _)) hb3⟩; have HX3 : Aside0 (w3.heap[wr.heap.size]? = some (.cells #[.int .i64 3, .int .i64 a1, .int .i64 a2, .int .i64 a3, .int .i64 a4, .int .i64 a5, .int .i64 a6, .int .i64 a7, .int .i64 a8] 63 (0, 0))) := ⟨xaY (by repeat (first | exact xgV _ _ | refine xaG ?_ _ | refine xaJ ?_)) hb3⟩; clear hb3
       go_wp2_with fail
       cases hp : M.rday ⟨3, a1, a2, a3, a4, a5, a6, a7, a8⟩ y with
       | none =>
        have HD := Aside0.mk hp; clear hp
        refine (dayC_3 _ _ _ _ _ _ _ _ _ HM.out h0 h1 _ HD.out _).mono ?_; rintro e w4 ⟨rfl, hb4⟩
        have HB4 := Aside0.mk (Bk.step (w1 := w4) HB3.out hb4); have hc8 : w4.cell? ⟨wr.heap.size, 8, none⟩ = some (.int .i64 a8) := (xaE (xaY HX3.out hb4) 8).trans rfl; clear hb4
        simp only [told]
        go_wp2_with fail
        go_roundg (gk - 1)
        case measure => omega
        case rel => exact ⟨i + 1, by omega, by omega, by go_num, ⟨f', Bk.mono (n := n + 1 + i) (HB4.out) (by omega), by rw [HT.out]; exact HU.out.none_ (fun x _ _ => xgQ HD.out x)⟩⟩
       | some d =>
        have HD := Aside0.mk hp; clear hp
        refine (dayC_3 _ _ _ _ _ _ _ _ _ HM.out h0 h1 _ HD.out _).mono ?_; rintro e w4 ⟨rfl, hb4⟩
        have HB4 := Aside0.mk (Bk.step (w1 := w4) HB3.out hb4); have hc8 : w4.cell? ⟨wr.heap.size, 8, none⟩ = some (.int .i64 a8) := (xaE (xaY HX3.out hb4) 8).trans rfl; clear hb4
        simp only [told]
        have hrng := xhK HM.out h0 h1 HD.out
        obtain ⟨nn, hnn⟩ : ∃ nn, M.moved we d a8 = nn := ⟨_, rfl⟩
        have hnr := xhB (we := we) (mv := a8) hrng.1 hrng.2
        rw [hnn] at hnr
        have HN := Aside0.mk hnn;clear hnn
        have hrng0 := hrng.1; have hrng1 := hrng.2; have hnr0 := hnr.1; have hnr1 := hnr.2; clear hrng hnr
        go_wp2_with fail
        refine (xgE _ we _ _ _ HB4.out.c0 hwe0 hwe1 (by omega) (by omega)).mono ?_; rintro e w5 ⟨rfl, rfl⟩; rw [HN.out]
        go_wp2_with fail
        by_cases hd : 0 ≤ nn ∧ nn ≤ 109572
        ·
         have hdb : decide (0 ≤ nn ∧ nn ≤ 109572) = true := by simpa using hd
         have hn64 : L.i64 nn := by unfold L.i64; omega
         have HDB := Aside0.mk hdb; clear hdb hd
         refine (xdW _ _ HDB.out _).mono ?_; rintro e w6 ⟨rfl, ⟨nq, rfl⟩⟩
         have HB5 := Aside0.mk (HB4.out.drewN nq); have hc3 := HB5.out.c3
         go_wp2_with (at_mapUpdate; refine xgX _ rfl _ _ _ rfl mb (n + 1 + i) f' rfl HB5.out.dy (by omega) _ rfl rfl hn64 ?_; intro w7 hm7 hg7; have HB7 := Aside0.mk (HB5.out.stored_m hg7 hm7); clear hm7 hg7)
         go_roundg (gk - 1)
         case measure => omega
         case rel => exact ⟨i + 1, by omega, by omega, by go_num, ⟨_, HB7.out, by rw [HT.out]; exact HU.out.some_ (fun x => xeY (Or.inr HYR.out) HD.out HN.out x)⟩⟩
        ·
         have hdb : decide (0 ≤ nn ∧ nn ≤ 109572) = false := by simpa using hd
         have HDB := Aside0.mk hdb; have HND := Aside0.mk hd; clear hdb hd
         refine (xdW _ _ HDB.out _).mono ?_; rintro e w6 ⟨rfl, ⟨nq, rfl⟩⟩
         have HB5 := Aside0.mk (HB4.out.drewN nq)
         go_wp2_with fail
         go_roundg (gk - 1)
         case measure => omega
         case rel => exact ⟨i + 1, by omega, by omega, by go_num, ⟨f', Bk.mono (n := n + 1 + i) (HB5.out) (by omega), by rw [HT.out]; exact HU.out.none_ (fun x _ _ => by rw [xeY (Or.inr HYR.out) HD.out HN.out x]; rw [decide_eq_false_iff_not]; intro e; have := HND.out; omega)⟩⟩
      ·
       have hyb : decide (a6 ≤ y ∧ y ≤ a7) = false := by simpa using hyr
       have HYB := Aside0.mk hyb; have HYR := Aside0.mk hyr; clear hyb hyr
       go_wp2_with fail
       refine (xdS _ _ _ _ HYB.out _).mono ?_; rintro e w' ⟨rfl, ⟨n0, rfl⟩⟩
       go_wp2_with fail
       go_roundg (gk - 1)
       case measure => omega
       case rel => exact ⟨i + 1, by omega, by omega, by go_num, ⟨f', Bk.mono (n := n + 1 + i) (by repeat (first | exact HB2.out | refine Bk.drewN ?_ _ | refine Bk.drew ?_ | refine Bk.alloc ?_ _)) (by omega), by rw [HT.out]; exact HU.out.none_ (fun x _ _ => xhZ (fun h => by rcases h with h | h; exact absurd h (by simp); exact HYR.out h) x)⟩⟩
     ·
      by_cases k4 : a0 = 4
      ·
       subst k4;have hmeth := day_135
       go_wp2_with fail
       refine (kind_4 _ _ _ _ _ _ _ _ _).mono ?_; rintro e w3 ⟨rfl, hb3⟩
       have HB3 : Aside0 (Bk w0 w3 bb md mb we (some ad) c l (n + 1 + i) (fun z => S z || decide (z = y)) f') := ⟨Bk.step (by repeat (first | exact HB2.out | refine Bk.drewN ?_ _ | refine Bk.drew ?_ | refine Bk.alloc ?_ _)) hb3⟩; have HX3 : Aside0 (w3.heap[wr.heap.size]? = some (.cells #[.int .i64 4, .int .i64 a1, .int .i64 a2, .int .i64 a3, .int .i64 a4, .int .i64 a5, .int .i64 a6, .int .i64 a7, .int .i64 a8] 63 (0, 0))) := ⟨xaY (by repeat (first | exact xgV _ _ | refine xaG ?_ _ | refine xaJ ?_)) hb3⟩; clear hb3
       go_wp2_with fail
       cases hp : decide (M.civY a2 = y) with
       | false =>
        have HP := Aside0.mk hp
        have HD := Aside0.mk (show M.rday ⟨4, a1, a2, a3, a4, a5, a6, a7, a8⟩ y = none by simp [M.rday]; simpa using hp); clear hp
        refine (dayC_4 _ _ _ _ _ _ _ _ _ HM.out _ HP.out _).mono ?_; rintro e w4 ⟨rfl, hb4⟩
        have HB4 := Aside0.mk (Bk.step (w1 := w4) HB3.out hb4); have hc8 : w4.cell? ⟨wr.heap.size, 8, none⟩ = some (.int .i64 a8) := (xaE (xaY HX3.out hb4) 8).trans rfl; clear hb4
        go_wp2_with fail
        go_roundg (gk - 1)
        case measure => omega
        case rel => exact ⟨i + 1, by omega, by omega, by go_num, ⟨f', Bk.mono (n := n + 1 + i) (HB4.out) (by omega), by rw [HT.out]; exact HU.out.none_ (fun x _ _ => xgQ HD.out x)⟩⟩
       | true =>
        have HP := Aside0.mk hp
        have HD := Aside0.mk (show M.rday ⟨4, a1, a2, a3, a4, a5, a6, a7, a8⟩ y = some a2 by simp [M.rday]; simpa using hp); clear hp
        refine (dayC_4 _ _ _ _ _ _ _ _ _ HM.out _ HP.out _).mono ?_; rintro e w4 ⟨rfl, hb4⟩
        have HB4 := Aside0.mk (Bk.step (w1 := w4) HB3.out hb4); have hc8 : w4.cell? ⟨wr.heap.size, 8, none⟩ = some (.int .i64 a8) := (xaE (xaY HX3.out hb4) 8).trans rfl; clear hb4
        have hrng := xhK HM.out h0 h1 HD.out
        obtain ⟨nn, hnn⟩ : ∃ nn, M.moved we a2 a8 = nn := ⟨_, rfl⟩
        have hnr := xhB (we := we) (mv := a8) hrng.1 hrng.2
        rw [hnn] at hnr
        have HN := Aside0.mk hnn;clear hnn
        have hrng0 := hrng.1; have hrng1 := hrng.2; have hnr0 := hnr.1; have hnr1 := hnr.2; clear hrng hnr
        go_wp2_with fail
        refine (xgE _ we _ _ _ HB4.out.c0 hwe0 hwe1 (by omega) (by omega)).mono ?_; rintro e w5 ⟨rfl, rfl⟩; rw [HN.out]
        go_wp2_with fail
        by_cases hd : 0 ≤ nn ∧ nn ≤ 109572
        ·
         have hdb : decide (0 ≤ nn ∧ nn ≤ 109572) = true := by simpa using hd
         have hn64 : L.i64 nn := by unfold L.i64; omega
         have HDB := Aside0.mk hdb; clear hdb hd
         refine (xdW _ _ HDB.out _).mono ?_; rintro e w6 ⟨rfl, ⟨nq, rfl⟩⟩
         have HB5 := Aside0.mk (HB4.out.drewN nq); have hc3 := HB5.out.c3
         go_wp2_with (at_mapUpdate; refine xgX _ rfl _ _ _ rfl mb (n + 1 + i) f' rfl HB5.out.dy (by omega) _ rfl rfl hn64 ?_; intro w7 hm7 hg7; have HB7 := Aside0.mk (HB5.out.stored_m hg7 hm7); clear hm7 hg7)
         go_roundg (gk - 1)
         case measure => omega
         case rel => exact ⟨i + 1, by omega, by omega, by go_num, ⟨_, HB7.out, by rw [HT.out]; exact HU.out.some_ (fun x => xeY (Or.inl rfl) HD.out HN.out x)⟩⟩
        ·
         have hdb : decide (0 ≤ nn ∧ nn ≤ 109572) = false := by simpa using hd
         have HDB := Aside0.mk hdb; have HND := Aside0.mk hd; clear hdb hd
         refine (xdW _ _ HDB.out _).mono ?_; rintro e w6 ⟨rfl, ⟨nq, rfl⟩⟩
         have HB5 := Aside0.mk (HB4.out.drewN nq)
         go_wp2_with fail
         go_roundg (gk - 1)
         case measure => omega
         case rel => exact ⟨i + 1, by omega, by omega, by go_num, ⟨f', Bk.mono (n := n + 1 + i) (HB5.out) (by omega), by rw [HT.out]; exact HU.out.none_ (fun x _ _ => by rw [xeY (Or.inl rfl) HD.out HN.out x]; rw [decide_eq_false_iff_not]; intro e; have := HND.out; omega)⟩⟩
      ·
       have := HM.out
       unfold M.may at this
       simp [k1, k2, k3, k4] at this
  ·
   have e : i = l.length := by omega
   have HE := Aside0.mk (show (l.map ru).take i = l.map ru by rw [e, ← List.length_map (f := ru), List.take_length])
   have hge : decide ((i : Int) < (l.length : Int)) = false := by simp; omega
   have hge2 : decide (i < l.length) = false := by simp; omega
   clear e
   go_wp2_with fail
   go_end0
   refine ⟨rfl, f', HB2.out.mono (by omega), ?_⟩
   have := HU.out
   rw [HE.out] at this
   exact this
end Go.Proofs.Ytoncignjcgjhhaa.H
namespace Go.Proofs.Ytoncignjcgjhhaa.H
open Go.RowKit Go.Maps Go.Proofs.YtoncignjcgjhhaaW.PrintWords Go.Proofs.YtoncignjcgjhhaaW.PrintLast Go.Proofs.YtoncignjcgjhhaaW.PrintMore
open Go.Proofs.Ytoncignjcgjhhaa.Q (S63 k63 z63)
theorem rel_upd {we y : Int} {l : List M.Rul} {S f f' : Int → Bool} (h : M.Rel we l S f) (hu : Upd we y f f' l) : M.Rel we l (fun z => S z || decide (z = y)) f' := by
 intro x h0 h1
 rw [hu x h0 h1, Bool.or_eq_true, h x h0 h1]
 constructor
 ·
  rintro (⟨z, hz, ha⟩ | ha)
  ·
   exact ⟨z, by simp [hz], ha⟩
  ·
   exact ⟨y, by simp, ha⟩
 ·
  rintro ⟨z, hz, ha⟩
  rw [Bool.or_eq_true, decide_eq_true_eq] at hz
  rcases hz with hz | rfl
  ·
   exact .inl ⟨z, hz, ha⟩
  ·
   exact .inr ha
def BkS (w0 w : World) (bb md mb : Nat) (we : Int) (A : Option Addr) (c : Nat) (l : List S63) (n : Nat) (P : Int → Prop) : Prop :=
  ∃ S f, Bk w0 w bb md mb we A c l n S f ∧ M.Rel we (l.map ru) S f ∧ ∀ z, P z → S z = true
theorem year_calls (w0 w : World) (bb md mb : Nat) (we : Int) (A : Option Addr) (c : Nat) (l : List S63) (n : Nat) (P : Int → Prop) (y : Int) (hB : BkS w0 w bb md mb we A c l n P) (hO : Ok w0 we A l) (h0 : 1900 ≤ y) (h1 : y ≤ 2199) (hn : n + 100 < maxLen) :
  Calls Try.prog 109 #[.pointer (some ⟨bb, 0, none⟩), .int .i64 y] w fun e w' => e = .returned (.tuple #[]) ∧ BkS w0 w' bb md mb we A c l (n + 65) (fun z => P z ∨ z = y) := by
 obtain ⟨S, f, hb, hr, hp⟩ := hB
 cases hs : S y with
 | true =>
  refine (year_seen w0 w bb md mb we A c l n S f y hb (by unfold L.i64; omega) hs).mono ?_
  rintro e w' ⟨rfl, rfl⟩
  exact ⟨rfl, S, f, hb.mono (by omega), hr, fun z hz => by rcases hz with hz | rfl; exact hp z hz; exact hs⟩
 | false =>
  refine (year_new w0 w bb md mb we A c l n S f y hb hO h0 h1 hs hn).mono ?_
  rintro e w' ⟨rfl, f', hb', hu⟩
  exact ⟨rfl, _, f', hb', rel_upd hr hu, fun z hz => by rcases hz with hz | rfl; simp [hp z hz]; simp⟩
theorem civil_calls (n : Int) (h : M.isDay n) (w : World) : Calls Try.prog 93 #[.int .i64 n] w fun e w' => e = .returned (.tuple #[.int .i64 (M.civY n), .int .i64 (M.civM n), .int .i64 (M.civD n), .int .i64 0]) ∧ Drawn0 w w' := by
 have hc := L.Civil n
 rw [if_pos (show 0 ≤ n ∧ n ≤ 109572 from h)] at hc
 obtain ⟨k, hk⟩ := hc.rounds
 exact Q.xdA.calls k n _ _ _ _ w hk
set_option maxHeartbeats 2000000 in
set_option maxRecDepth 100000 in
theorem holiday_at (w0 w : World) (bb md mb : Nat) (we : Int) (A : Option Addr) (c : Nat) (l : List S63) (n : Nat) (P : Int → Prop) (x : Int) (hB : BkS w0 w bb md mb we A c l n P) (hO : Ok w0 we A l) (hx : M.isDay x) (hn : n + 300 < maxLen) :
  Calls Try.prog 75 #[.pointer (some ⟨bb, 0, none⟩), .int .i64 x] w fun e w' => e = .returned (.bool (M.hol we (l.map ru) x)) ∧ BkS w0 w' bb md mb we A c l (n + 195) P := by
 have HB := Aside0.mk hB;have HO := Aside0.mk hO;have HX := Aside0.mk hx
 have hx64 : L.i64 x := by unfold M.isDay at hx; unfold L.i64; omega
 have hy := M.xdN x hx.1 hx.2
 have hy0 : 1900 ≤ M.civY x := hy.1
 have hy1 : M.civY x ≤ 2199 := hy.2.1
 clear hB hO hx hy
 go_enter Try.func75, Try.ntmps75
 go_wp2_with (go_at_call 93; refine (civil_calls _ HX.out _).mono ?_; rintro e w' ⟨rfl, ⟨n0, rfl⟩⟩)
 go_loopg [17] 3 (fun kq v w' => ∃ i : Nat, i ≤ 3 ∧ kq + i = 3 ∧ v = .int .i64 i ∧ Aside0 (BkS w0 w' bb md mb we A c l (n + 65 * i) (fun z => P z ∨ (M.civY x - 1 ≤ z ∧ z < M.civY x - 1 + i ∧ 1900 ≤ z ∧ z ≤ 2199))))
 case atStart =>
  refine ⟨0, by omega, by omega, rfl, ⟨?_⟩⟩
  obtain ⟨S, f, hb, hr, hp⟩ := HB.out
  exact ⟨S, f, (by repeat (first | exact hb | refine Bk.drewN ?_ _ | refine Bk.drew ?_)), hr, fun z hz => by rcases hz with hz | hz; exact hp z hz; omega⟩
 case round =>
  obtain ⟨i, hi, hk, rfl, HS⟩ := hrel
  clear HB
  by_cases hlt : i < 3
  ·
   have hw1 : IntKind.i64.wrap (M.civY x + (i : Int)) = M.civY x + i := IntWalk.i64_in _ (by omega)
   by_cases hr : 1900 ≤ M.civY x + (i : Int) - 1 ∧ M.civY x + (i : Int) - 1 ≤ 2199
   ·
    have hrb := Aside0.mk (show decide (1900 ≤ M.civY x + (i : Int) - 1 ∧ M.civY x + (i : Int) - 1 ≤ 2199) = true by simpa using hr)
    have hr0 := hr.1; have hr1 := hr.2; clear hr hw1
    go_wp2_with fail
    refine (xdS _ _ _ _ hrb.out _).mono ?_; rintro e w' ⟨rfl, ⟨n1, rfl⟩⟩
    go_wp2_with fail
    refine (year_calls w0 _ bb md mb we A c l (n + 65 * i) (fun z => P z ∨ (M.civY x - 1 ≤ z ∧ z < M.civY x - 1 + i ∧ 1900 ≤ z ∧ z ≤ 2199)) _ ?_ HO.out hr0 hr1 (by omega)).mono ?_
    rotate_left
    ·
     rintro e w2 ⟨rfl, hb2⟩
     have HB2 := Aside0.mk hb2; clear hb2
     go_wp2_with fail
     go_roundg (gk - 1)
     case measure => omega
     case rel =>
      refine ⟨i + 1, by omega, by omega, by go_num, ⟨?_⟩⟩
      obtain ⟨S, f, hb, hr, hp⟩ := HB2.out
      exact ⟨S, f, hb.mono (by omega), hr, fun z hz => hp z (by
       rcases hz with hz | hz
       ·
        exact .inl (.inl hz)
       ·
        by_cases e : z = M.civY x + (i : Int) - 1
        ·
         exact .inr e
        ·
         exact .inl (.inr ⟨hz.1, by omega, hz.2.2⟩))⟩
    ·
     obtain ⟨S, f, hb, hr, hp⟩ := HS.out
     exact ⟨S, f, (by repeat (first | exact hb | refine Bk.drewN ?_ _ | refine Bk.drew ?_)), hr, hp⟩
   ·
    have hrb := Aside0.mk (show decide (1900 ≤ M.civY x + (i : Int) - 1 ∧ M.civY x + (i : Int) - 1 ≤ 2199) = false by simpa using hr)
    have HR := Aside0.mk hr;clear hr hw1
    go_wp2_with fail
    refine (xdS _ _ _ _ hrb.out _).mono ?_; rintro e w' ⟨rfl, ⟨n1, rfl⟩⟩
    go_wp2_with fail
    go_roundg (gk - 1)
    case measure => omega
    case rel =>
     refine ⟨i + 1, by omega, by omega, by go_num, ⟨?_⟩⟩
     obtain ⟨S, f, hb, hr, hp⟩ := HS.out
     exact ⟨S, f, Bk.mono (n := n + 65 * i) (by repeat (first | exact hb | refine Bk.drewN ?_ _ | refine Bk.drew ?_)) (by omega), hr, fun z hz => hp z (by
      rcases hz with hz | hz
      ·
       exact .inl hz
      ·
       by_cases e : z = M.civY x + (i : Int) - 1
       ·
        have := HR.out; omega
       ·
        exact .inr ⟨hz.1, by omega, hz.2.2⟩)⟩
  ·
   have e : i = 3 := by omega
   subst e
   obtain ⟨S, f, hb, hr, hp⟩ := HS.out
   have HB3 := Aside0.mk hb;have HP := Aside0.mk hp;have HR := Aside0.mk hr
   have HF := Aside0.mk (M.rel_hol (fun r hr => by obtain ⟨y, hy, rfl⟩ := List.mem_map.1 hr; exact HO.out.may y hy) hr HX.out.1 HX.out.2 (fun z a b c d => hp z (.inr ⟨a, by omega, c, d⟩)))
   have hc3 := hb.c3;clear hb hr hp HS
   go_wp2_with (at_lookup; refine wp_look _ rfl _ _ rfl mb _ f rfl HB3.out.dy _ rfl hx64 ?_; rw [HF.out])
   go_ret
   refine ⟨?_, S, f, HB3.out.mono (by omega), HR.out, fun z hz => HP.out z (.inl hz)⟩
   cases M.hol we (l.map ru) x <;> rfl
def Book (w0 w : World) (bb : Nat) (we : Int) (A : Option Addr) (c : Nat) (l : List S63) (n : Nat) : Prop :=
  ∃ md mb, BkS w0 w bb md mb we A c l n (fun _ => False)
section
variable {w0 w w1 : World} {bb : Nat} {we : Int} {A : Option Addr} {c : Nat} {l : List S63} {n : Nat}
theorem Book.step (h : Book w0 w bb we A c l n) (hb : Below w.heap.size w w1) : Book w0 w1 bb we A c l n := by
  obtain ⟨md, mb, S, f, h, r⟩ := h
  exact ⟨md, mb, S, f, h.step hb, r⟩
theorem Book.mono (h : Book w0 w bb we A c l n) {n' : Nat} (hn : n ≤ n') : Book w0 w bb we A c l n' := by
  obtain ⟨md, mb, S, f, h, r⟩ := h
  exact ⟨md, mb, S, f, h.mono hn, r⟩
theorem Book.drewN (h : Book w0 w bb we A c l n) (k : Nat) : Book w0 (w.drewN k) bb we A c l n := h.step (xaA (Below.refl _ _) k)
theorem Book.drew (h : Book w0 w bb we A c l n) : Book w0 w.drew bb we A c l n := h.step (xgR (Below.refl _ _))
theorem Book.alloc (h : Book w0 w bb we A c l n) (o : Obj) : Book w0 (w.alloc o) bb we A c l n := h.step (xaB (Below.refl _ _) o)
theorem Book.bel (h : Book w0 w bb we A c l n) : Below w0.heap.size w0 w := by obtain ⟨md, mb, S, f, h, _⟩ := h; exact h.bel
theorem Book.c0 (h : Book w0 w bb we A c l n) : w.cell? ⟨bb, 0, none⟩ = some (.int .i64 we) := by obtain ⟨md, mb, S, f, h, _⟩ := h; exact h.c0
end
theorem holiday_calls (w0 w : World) (bb : Nat) (we : Int) (A : Option Addr) (c : Nat) (l : List S63) (n : Nat) (x : Int) (hB : Book w0 w bb we A c l n) (hO : Ok w0 we A l) (hx : M.isDay x) (hn : n + 300 < maxLen) :
  Calls Try.prog 75 #[.pointer (some ⟨bb, 0, none⟩), .int .i64 x] w fun e w' => e = .returned (.bool (M.hol we (l.map ru) x)) ∧ Book w0 w' bb we A c l (n + 195) := by
 obtain ⟨md, mb, hb⟩ := hB
 refine (holiday_at w0 w bb md mb we A c l n _ x hb hO hx hn).mono ?_
 rintro e w' ⟨rfl, h⟩
 exact ⟨rfl, md, mb, h⟩
set_option maxHeartbeats 1000000 in
theorem xgP (w0 w : World) (bb : Nat) (we : Int) (A : Option Addr) (c : Nat) (l : List S63) (n : Nat) (x : Int) (r : Bool) (hr : M.isOpen we (l.map ru) x = r) (hB : Book w0 w bb we A c l n) (hO : Ok w0 we A l) (hx : M.isDay x) (hn : n + 300 < maxLen) :
  Calls Try.prog 72 #[.pointer (some ⟨bb, 0, none⟩), .int .i64 x] w fun e w' => e = .returned (.bool r) ∧ Book w0 w' bb we A c l (n + 195) := by
 have hwe0 := hO.h0; have hwe1 := hO.h1
 have hx0 : -6 ≤ x := by have := hx.1; omega
 have hx1 : x ≤ 200000 := by have := hx.2; omega
 have HB := Aside0.mk hB;have HO := Aside0.mk hO;have HX := Aside0.mk hx;clear hB hO hx
 cases ho : M.off we x with
 | true =>
  have HR := Aside0.mk (show r = false by rw [← hr]; simp [M.isOpen, ho])
  have HH := Aside0.mk ho;clear ho hr
  go_enter Try.func72, Try.ntmps72
  go_wp2_with fail
  refine (xeT _ we _ _ HB.out.c0 hwe0 hwe1 hx0 hx1).mono ?_; rintro e w' ⟨rfl, rfl⟩; rw [HH.out]
  go_wp2_with fail
  go_ret
  exact ⟨ret_bool HR.out.symm, HB.out.mono (by omega)⟩
 | false =>
  have HR := Aside0.mk (show (!M.hol we (l.map ru) x) = r by rw [← hr]; simp [M.isOpen, ho])
  have HH := Aside0.mk ho;clear ho hr
  go_enter Try.func72, Try.ntmps72
  go_wp2_with fail
  refine (xeT _ we _ _ HB.out.c0 hwe0 hwe1 hx0 hx1).mono ?_; rintro e w' ⟨rfl, rfl⟩; rw [HH.out]
  go_wp2_with fail
  refine (holiday_calls w0 _ bb we A c l n _ HB.out HO.out HX.out hn).mono ?_; rintro e w2 ⟨rfl, hb2⟩
  have HB2 := Aside0.mk hb2; clear hb2
  go_wp2_with fail
  go_ret
  exact ⟨ret_bool HR.out, HB2.out⟩
end Go.Proofs.Ytoncignjcgjhhaa.H
namespace Go.Proofs.Ytoncignjcgjhhaa.Q
open Go.RowKit Go.Proofs.YtoncignjcgjhhaaW.PrintWords Go.Proofs.YtoncignjcgjhhaaW.PrintLast Go.Proofs.YtoncignjcgjhhaaW.PrintMore
attribute [local go_sem] xcC xcB xcR xcQ xbX xbW xcF xcE   -- for this text's walks alone
-- NOT PRINTED: function 77 (cal_book_next)
-- NOT PRINTED: function 78 (cal_book_kept)
end Go.Proofs.Ytoncignjcgjhhaa.Q
namespace Go.Proofs.Ytoncignjcgjhhaa.H
open Go.RowKit Go.Maps Go.Proofs.YtoncignjcgjhhaaW.PrintWords Go.Proofs.YtoncignjcgjhhaaW.PrintLast Go.Proofs.YtoncignjcgjhhaaW.PrintMore
open Go.Proofs.Ytoncignjcgjhhaa.Q (S63 k63 z63)
set_option maxHeartbeats 1000000 in
theorem begin_err (we : Int) (A : Option Addr) (c : Nat) (l : List S63) (w : World) (hr : Kd.C k63 w A l.length l) (hw : ∀ x ∈ l, wfS x) (hne : ¬ (M.chk we (l.map ru)).1 = 0) :
  Calls Try.prog 70 #[.agg #[.int .i64 we, .slice A l.length c]] w fun e w' => e = .returned (.tuple #[.pointer none, .int .i64 (M.chk we (l.map ru)).1]) ∧ Below w.heap.size w w' := by
 have HR := Aside0.mk hr;have HW := Aside0.mk hw
 obtain ⟨e1, he⟩ : ∃ e1, M.chk we (l.map ru) = e1 := ⟨_, rfl⟩
 rw [he] at hne
 have HE := Aside0.mk he
 have hb : (e1.1 != 0) = true := by simpa using hne
 clear hr hw he hne
 rw [HE.out]
 go_enter Try.func70, Try.ntmps70
 go_wp2_with fail
 refine (xgU we A c l _ (Kd.xbT HR.out (xaB (Below.refl _ _) _)) HW.out).mono ?_; rw [HE.out]; rintro e w2 ⟨rfl, hb2⟩
 have HB2 := Aside0.mk (xaP (xaB (Below.refl _ _) _) hb2); clear hb2
 go_wp2_with fail
 go_ret2
 exact ⟨rfl, HB2.out⟩
theorem size_alloc (w : World) (o : Obj) : (w.alloc o).heap.size = w.heap.size + 1 := by simp
theorem book_made {w w2 : World} (we : Int) (A : Option Addr) (c : Nat) (l : List S63) (hb : Below w.heap.size w w2) :
  Book w (((w2.alloc (.map #[] 0)).alloc (.map #[] 0)).alloc (.cells #[.int .i64 we, .slice A l.length c, .map (some w2.heap.size), .map (some (w2.heap.size + 1))] 129)) (w2.heap.size + 1 + 1) we A c l 0 := by
 have h1 : MapOk (w2.alloc (.map #[] 0)) w2.heap.size 0 (fun _ => false) := MapOk.made w2
 have h2 : MapOk ((w2.alloc (.map #[] 0)).alloc (.map #[] 0)) (w2.heap.size + 1) 0 (fun _ => false) := by
  have := MapOk.made (w2.alloc (.map #[] 0))
  rw [size_alloc] at this
  exact this
 have s := hb.size
 refine ⟨w2.heap.size, w2.heap.size + 1, fun _ => false, fun _ => false, ⟨?_, ?_, by omega, by omega, by omega, by omega, by omega, by omega, ?_, ?_⟩, fun x _ _ => by simp, fun z hz => hz.elim⟩
 ·
  exact xaB (xaB (xaB hb _) _) _
 ·
  have := xgV ((w2.alloc (.map #[] 0)).alloc (.map #[] 0)) (.cells #[.int .i64 we, .slice A l.length c, .map (some w2.heap.size), .map (some (w2.heap.size + 1))] 129)
  rw [size_alloc, size_alloc] at this
  exact this
 ·
  exact (h1.kept (xeF (xaB (Below.refl _ _) _) none) (by simp)).kept (xeF (xaB (Below.refl _ _) _) none) (by simp)
 ·
  exact h2.kept (xeF (xaB (Below.refl _ _) _) none) (by simp)
set_option maxHeartbeats 1000000 in
theorem xhN (we : Int) (A : Option Addr) (c : Nat) (l : List S63) (w : World) (hr : Kd.C k63 w A l.length l) (hw : ∀ x ∈ l, wfS x) (hne : (M.chk we (l.map ru)).1 = 0) :
  Calls Try.prog 70 #[.agg #[.int .i64 we, .slice A l.length c]] w fun e w' => ∃ bb, e = .returned (.tuple #[.pointer (some ⟨bb, 0, none⟩), .int .i64 0]) ∧ Book w w' bb we A c l 0 := by
 have HR := Aside0.mk hr;have HW := Aside0.mk hw
 have he := (M.chk_ok hne).1
 have HE := Aside0.mk he
 have hmm := @run_makeMap Try.prog
 clear hr hw he hne
 go_enter Try.func70, Try.ntmps70
 go_wp2_with fail
 refine (xgU we A c l _ (Kd.xbT HR.out (xaB (Below.refl _ _) _)) HW.out).mono ?_; rw [HE.out]; rintro e w2 ⟨rfl, hb2⟩
 have HB2 := Aside0.mk (xaP (xaB (Below.refl _ _) _) hb2)
 have hbk : w2.heap[w.heap.size]? = some (.cells #[.int .i64 we, .slice A l.length c] 24 (0, 0)) := xaY (xgV _ _) hb2
 have hc0 : w2.cell? ⟨w.heap.size, 0, none⟩ = some (.int .i64 we) := (xaE hbk 0).trans rfl
 have hc1 : w2.cell? ⟨w.heap.size, 1, none⟩ = some (.slice A l.length c) := (xaE hbk 1).trans rfl
 clear hb2 hbk
 go_wp2_with fail
 go_ret2
 exact ⟨_, rfl, book_made we A c l HB2.out⟩
theorem ok_of (we : Int) (A : Option Addr) (l : List S63) (w : World) (hr : Kd.C k63 w A l.length l) (hw : ∀ x ∈ l, wfS x) (hne : (M.chk we (l.map ru)).1 = 0) : Ok w we A l :=
  have h := M.chk_ok hne
  ⟨hr, h.2.2.1, h.2.2.2.1, by simpa using h.2.1, hw, fun x hx => h.2.2.2.2 _ (List.mem_map_of_mem hx)⟩
end Go.Proofs.Ytoncignjcgjhhaa.H
namespace Go.Proofs.Ytoncignjcgjhhaa.H
open Go.RowKit Go.Maps Go.Proofs.YtoncignjcgjhhaaW.PrintWords Go.Proofs.YtoncignjcgjhhaaW.PrintLast Go.Proofs.YtoncignjcgjhhaaW.PrintMore
open Go.Proofs.Ytoncignjcgjhhaa.Q (S63 k63 z63)
theorem fin {w w' : World} {o : Obj} {bb : Nat} {we : Int} {A : Option Addr} {c : Nat} {l : List S63} {n : Nat} (h : Book (w.alloc o) w' bb we A c l n) : Below w.heap.size w w' := xaP (xaB (Below.refl _ _) o) h.bel
end Go.Proofs.Ytoncignjcgjhhaa.H
