/- Contracts and facts of functions of the program, joined in one text. -/
import Derived.Test.YtkabcgmegljebaaGreatDoorDGD
import Derived.Test.YtkabcgmegljebaaGreatDoorDGH
import Derived.Test.YtkabcgmegljebaaGreatDoorDGI
import Derived.Test.YtkabcgmegljebaaGreatDoorDGK
import Derived.Test.YtkabcgmegljebaaGreatDoorDGA
import Derived.Test.YtkabcgmegljebaaGreatDoorDGC
set_option maxHeartbeats 8000000
set_option maxRecDepth 100000
set_option linter.unusedVariables false
set_option linter.unusedSimpArgs false
namespace Go.Proofs.YtkabcgmegljebaaGreatDoor.S
open Go.RowKit Go.Proofs.YtkabcgmegljebaaGreatDoorW.PrintWords Go.Proofs.YtkabcgmegljebaaGreatDoorW.PrintLast Go.Proofs.YtkabcgmegljebaaGreatDoorW.PrintMore
open Go.Proofs.YtkabcgmegljebaaGreatDoor.Q
open Go.Proofs.YtkabcgmegljebaaGreatDoor.L (w64 td tm tm0)
structure Sp where
 a : Int
 b : Int
 n : Int
 u : Int
 st : Int
 ro : Int
 cv : Int
 lag : Int
 we : Int
 l : List S214
def Sp.emp (s : Sp) : Prop := s.we = 0 ∧ s.l.length = 0 ∧ s.cv = 0 ∧ s.lag = 0
def ck (we : Int) (l : List S214) : Int := 0
theorem cCheck {s : Sp} (h : s.emp) : xcR.f s.we s.l = some (0, 0) := if_pos ⟨h.1, h.2.1⟩
def Sp.days (s : Sp) : Prop := (0 ≤ s.a ∧ s.a ≤ 109572) ∧ 0 ≤ s.b ∧ s.b ≤ 109572
def Sp.fit (s : Sp) : Prop := s.a < s.b ∧ (1 ≤ s.n ∧ s.n ≤ 1200) ∧ (1 ≤ s.u ∧ s.u ≤ 4) ∧ (1 ≤ s.st ∧ s.st ≤ 4) ∧ (0 ≤ s.ro ∧ s.ro ≤ 2) ∧ (s.ro = 0 ∨ 3 ≤ s.u) ∧ (0 ≤ s.cv ∧ s.cv ≤ 4) ∧ (0 ≤ s.lag ∧ s.lag ≤ 30)
open Classical in
noncomputable def Sp.chk (s : Sp) : Int := if s.days then (if s.fit then ck s.we s.l else 80) else 51
theorem sin (a b c : Int) : xaQ.f a b c = some (decide (b ≤ a ∧ a ≤ c)) := by
 unfold xaQ.f
 by_cases h : a ≥ b
 ·
  rw [if_pos h]; simp [h]
 ·
  rw [if_neg h]; simp; omega
theorem sis (n : Int) : xcD.f n = some (decide (0 ≤ n ∧ n ≤ 109572)) := by
 unfold xcD.f
 by_cases h : n ≥ 0
 ·
  rw [if_pos h]; simp [h]
 ·
  rw [if_neg h]; simp; omega
theorem ev_ite {α : Type} {p : Prop} [Decidable p] {g h : Nat → Option α} {r : α} (h1 : p → Ev g r) (h2 : ¬ p → Ev h r) : Ev (fun q => if p then g q else h q) r := by
 by_cases hp : p
 ·
  exact Ev.congr (fun q => if_pos hp) (h1 hp)
 ·
  exact Ev.congr (fun q => if_neg hp) (h2 hp)
theorem ev_dec {α : Type} {p : Prop} [Decidable p] {g h : Nat → Option α} {r : α} (h1 : p → Ev g r) (h2 : ¬ p → Ev h r) : Ev (fun q => if decide p = true then g q else h q) r :=
  ev_ite (fun e => h1 (of_decide_eq_true e)) (fun e => h2 (fun hp => e (decide_eq_true hp)))
theorem chk_days {s : Sp} (h : ¬ s.days) : s.chk = 51 := by unfold Sp.chk; rw [if_neg h]
theorem chk_unfit {s : Sp} (h : s.days) (h2 : ¬ s.fit) : s.chk = 80 := by unfold Sp.chk; rw [if_pos h, if_neg h2]
theorem chk_fit {s : Sp} (h : s.days) (h2 : s.fit) : s.chk = ck s.we s.l := by unfold Sp.chk; rw [if_pos h, if_pos h2]
theorem sCheck (s : Sp) (hw : s.emp) : Ev (fun k => xaP.f k s.a s.b s.n s.u s.st s.ro s.cv s.lag s.we s.l) s.chk := by
 refine Ev.congr (fun k => by unfold xaP.f; rw [sis, Option.bind_some, sis, Option.bind_some]) ?_
 have ht : ¬ s.days → Ev (fun k => xaP.j0 k true s.a s.b s.n s.u s.st s.ro s.cv s.lag s.we s.l) s.chk := fun h => by
  rw [chk_days h]
  exact Ev.step (f := fun _ => some (51 : Int)) (fun k => by rw [xaP.j0, if_pos rfl]) (Ev.now _)
 refine ev_dec (fun ha => ?_) (fun ha => ht (fun h => ha h.1))
 by_cases hb : 0 ≤ s.b ∧ s.b ≤ 109572
 ·
  have hd : s.days := ⟨ha, hb⟩
  have h80 : ∀ {α : Type} (_ : ¬ s.fit), Ev (fun _ : Nat => some (80 : Int)) s.chk := fun h => by rw [chk_unfit hd h]; exact Ev.now _
  refine Ev.congr (fun k => by rw [decide_eq_true hb]) ?_
  refine Ev.step (fun k => by rw [Bool.not_true, xaP.j0, if_neg (by decide), sin, sin, sin, sin, Option.bind_some, Option.bind_some, Option.bind_some, Option.bind_some]) ?_
  have hj1 : ∀ x : Bool, (x = true → ¬ s.fit) → (x = false → (s.cv < 0 ∨ 4 < s.cv ∨ s.lag < 0 ∨ 30 < s.lag) ∨ s.fit) → Ev (fun k => xaP.j1 k x s.a s.b s.n s.u s.st s.ro s.cv s.lag s.we s.l) s.chk := by
   intro x h1 h2
   refine Ev.step (fun k => by rw [xaP.j1, sin, sin, Option.bind_some, Option.bind_some, cCheck hw, Option.bind_some]) ?_
   refine ev_ite (fun e => h80 (α := Unit) (h1 e)) (fun e => ?_)
   have h3 := h2 (Bool.eq_false_iff.2 e)
   refine ev_dec (fun e1 => ev_dec (fun e2 => ?_) (fun e2 => h80 (α := Unit) (fun h => e2 h.2.2.2.2.2.2.2))) (fun e1 => h80 (α := Unit) (fun h => e1 h.2.2.2.2.2.2.1))
   rw [chk_fit hd (h3.elim (fun h => by omega) id)]
   exact Ev.now _
  refine ev_ite (fun c1 => h80 (α := Unit) (fun h => by have := h.1; omega)) (fun c1 => ?_)
  refine ev_dec (fun c2 => ?_) (fun c2 => h80 (α := Unit) (fun h => c2 h.2.1))
  refine ev_dec (fun c3 => ?_) (fun c3 => h80 (α := Unit) (fun h => c3 h.2.2.1))
  refine ev_dec (fun c4 => ?_) (fun c4 => h80 (α := Unit) (fun h => c4 h.2.2.2.1))
  refine ev_dec (fun c5 => ?_) (fun c5 => h80 (α := Unit) (fun h => c5 h.2.2.2.2.1))
  refine ev_ite (fun c6 => hj1 false (fun h => absurd h (by decide)) (fun _ => ?_)) (fun c6 => hj1 _ (fun h => ?_) (fun h => ?_))
  ·
   by_cases hc : 0 ≤ s.cv ∧ s.cv ≤ 4 ∧ 0 ≤ s.lag ∧ s.lag ≤ 30
   ·
    exact .inr ⟨by omega, c2, c3, c4, c5, .inl c6, by omega, by omega⟩
   ·
    exact .inl (by omega)
  ·
   have := of_decide_eq_true h
   intro hf; have h6 := hf.2.2.2.2.2.1; omega
  ·
   have := of_decide_eq_false h
   by_cases hc : 0 ≤ s.cv ∧ s.cv ≤ 4 ∧ 0 ≤ s.lag ∧ s.lag ≤ 30
   ·
    exact .inr ⟨by omega, c2, c3, c4, c5, .inr (by omega), by omega, by omega⟩
   ·
    exact .inl (by omega)
 ·
  exact Ev.congr (fun k => by rw [decide_eq_false hb]; rfl) (ht (fun h => hb h.2))
def rolled (ro x m : Int) : Int :=
 if ro = 0 then M.dayOf (M.mAt x m / 12) (M.mAt x m % 12 + 1) (M.xdJ x m false)
 else if ro = 1 then M.dayOf (M.mAt x m / 12) (M.mAt x m % 12 + 1) (M.mlen (M.mAt x m / 12) (M.mAt x m % 12 + 1))
 else M.third (M.mAt x m / 12) (M.mAt x m % 12 + 1)
def asDay (n : Int) : Option Int := if 0 ≤ n ∧ n ≤ 109572 then some n else none
def Sp.mons (s : Sp) (k : Int) : Int := if s.u = 4 then 12 * (k * s.n) else k * s.n
def Sp.pt (s : Sp) (x k : Int) : Option Int :=
 if k < -200000 ∨ 200000 < k then none
 else if s.u = 2 then asDay (x + 7 * (k * s.n)) else if s.u = 1 then asDay (x + k * s.n)
 else if M.xdG x (s.mons k) then some (rolled s.ro x (s.mons k)) else none
def Tells (p : Int × Bool) : Option Int → Prop
  | some v => p = (v, true)
  | none => p.2 = false
def told (o : Option Int) : Int × Bool := match o with | some v => (v, true) | none => (0, false)
theorem mul_rng {k n c : Int} (h0 : 0 ≤ c) (h1 : -c ≤ k) (h2 : k ≤ c) (n1 : 1 ≤ n) (n2 : n ≤ 1200) : -(c * 1200) ≤ k * n ∧ k * n ≤ c * 1200 := by
 have a := Int.mul_le_mul_of_nonneg_right h2 (show 0 ≤ n by omega)
 have b := Int.mul_le_mul_of_nonneg_left n2 h0
 have d := Int.mul_le_mul_of_nonneg_right h1 (show 0 ≤ n by omega)
 rw [Int.neg_mul] at d
 omega
theorem mul_far {k n : Int} (n1 : 1 ≤ n) : (0 ≤ k → k ≤ k * n) ∧ (k ≤ 0 → k * n ≤ k) := by
 refine ⟨fun h => ?_, fun h => ?_⟩
 ·
  have := Int.mul_le_mul_of_nonneg_left n1 h; omega
 ·
  have := Int.mul_le_mul_of_nonpos_left h n1; omega
theorem monthsOk_date {x m : Int} (hx : 0 ≤ x ∧ x ≤ 109572) (h : M.xdG x m) : ∃ n, n = M.dayOf (M.mAt x m / 12) (M.mAt x m % 12 + 1) (M.xdJ x m false) ∧ (0 ≤ n ∧ n ≤ 109572) ∧ M.civY n = M.mAt x m / 12 ∧ M.civM n = M.mAt x m % 12 + 1 := by
 have hd := M.monthsDate false hx h;have hr := M.xiG hd;have hc := M.civ_unique hd rfl
 exact ⟨_, rfl, ⟨hr.1, hr.2.1⟩, hc.1, hc.2.1⟩
theorem mlenDate {y m : Int} (h : 1900 ≤ y ∧ y ≤ 2199 ∧ 1 ≤ m ∧ m ≤ 12) : M.isDate y m (M.mlen y m) := by
  have := M.xeL y m; unfold M.isDate; omega
theorem point_j0 (s : Sp) (x m : Int) (hx : 0 ≤ x ∧ x ≤ 109572) (hro : 0 ≤ s.ro ∧ s.ro ≤ 2) : Ev (fun q => xbE.j0 q x m s.a s.b s.n s.u s.st s.ro s.cv s.lag s.we s.l) (told (if M.xdG x m then some (rolled s.ro x m) else none)) := by
 refine Ev.step (fun q => by rw [xbE.j0]) (Ev.bind (L.Months x m false) ?_)
 unfold M.months
 rw [if_pos hx]
 by_cases h : M.xdG x m
 ·
  rw [if_pos h, if_pos h]
  refine Ev.congr (fun q => if_pos rfl) ?_
  obtain ⟨n, hn, hr, hy, hm⟩ := monthsOk_date hx h
  have hrng := M.mAt_rng h
  show Ev (fun q => (xbR.f q (M.dayOf (M.mAt x m / 12) (M.mAt x m % 12 + 1) (M.xdJ x m false))).bind _) _
  rw [← hn]
  have hc := L.Civil n
  rw [if_pos hr, hy, hm] at hc
  refine Ev.bind hc ?_
  unfold rolled
  by_cases r1 : s.ro = 1
  ·
   rw [if_neg (show ¬ s.ro = 0 by omega), if_pos r1]
   refine Ev.congr (fun q => by rw [if_pos r1, L.Length, if_pos hrng, Option.bind_some]) ?_
   have ho := L.Of (M.mAt x m / 12) (M.mAt x m % 12 + 1) (M.mlen (M.mAt x m / 12) (M.mAt x m % 12 + 1))
   rw [if_pos (mlenDate hrng)] at ho
   exact Ev.bind ho (Ev.now _)
  ·
   by_cases r2 : s.ro = 2
   ·
    rw [if_neg (show ¬ s.ro = 0 by omega), if_neg r1]
    refine Ev.congr (fun q => by rw [if_neg r1, if_pos r2]) ?_
    have ho := L.Third (M.mAt x m / 12) (M.mAt x m % 12 + 1)
    rw [if_pos hrng] at ho
    exact Ev.bind ho (Ev.now _)
   ·
    rw [if_pos (show s.ro = 0 by omega)]
    refine Ev.congr (fun q => by rw [if_neg r1, if_neg r2]) ?_
    rw [hn]
    exact Ev.now _
 ·
  rw [if_neg h, if_neg h]
  exact Ev.congr (fun q => if_neg (by decide)) (Ev.now _)
theorem tells_day (n : Int) : Tells (n, decide (0 ≤ n ∧ n ≤ 109572)) (asDay n) := by
 unfold asDay
 by_cases h : 0 ≤ n ∧ n ≤ 109572
 ·
  rw [if_pos h, decide_eq_true h]; rfl
 ·
  rw [if_neg h, decide_eq_false h]; rfl
theorem tells_told (o : Option Int) : Tells (told o) o := by cases o <;> rfl
theorem sPoint (s : Sp) (x k : Int) (hx : 0 ≤ x ∧ x ≤ 109572) (hf : s.fit) : ∃ p, Ev (fun q => xbE.f q s.a s.b s.n s.u s.st s.ro s.cv s.lag s.we s.l x k) p ∧ Tells p (s.pt x k) := by
 obtain ⟨_, hn, hu, _, hro, _⟩ := hf
 have hkk : ∃ kk : Int, mn (mx k (-1048576)) 1048576 = kk ∧ -1048576 ≤ kk ∧ kk ≤ 1048576 ∧ (¬ (k < -200000 ∨ 200000 < k) → kk = k) ∧ (k < -200000 → kk < -200000) ∧ (200000 < k → 200000 < kk) := by
  refine ⟨_, rfl, ?_, ?_, ?_, ?_, ?_⟩ <;> (unfold mn mx; omega)
 obtain ⟨kk, ekk, k1, k2, k3, k4, k5⟩ := hkk
 have hm := mul_rng (by omega) k1 k2 hn.1 hn.2
 have hfar := mul_far (k := kk) hn.1
 have e1 : wrap64 (kk * s.n) = kk * s.n := w64 (by omega) (by omega)
 have e7 : wrap64 (kk * s.n * 7) = kk * s.n * 7 := w64 (by omega) (by omega)
 have e12 : wrap64 (kk * s.n * 12) = kk * s.n * 12 := w64 (by omega) (by omega)
 have ex7 : wrap64 (x + kk * s.n * 7) = x + kk * s.n * 7 := w64 (by omega) (by omega)
 have ex1 : wrap64 (x + kk * s.n) = x + kk * s.n := w64 (by omega) (by omega)
 by_cases u2 : s.u = 2
 ·
  refine ⟨(x + kk * s.n * 7, decide (0 ≤ x + kk * s.n * 7 ∧ x + kk * s.n * 7 ≤ 109572)), Ev.congr (fun q => ?_) (Ev.now _), ?_⟩
  ·
   unfold xbE.f; rw [if_pos u2, ekk, e1, e7, ex7, sis, Option.bind_some]
  ·
   unfold Sp.pt
   by_cases hk : k < -200000 ∨ 200000 < k
   ·
    rw [if_pos hk]
    show decide _ = false
    refine decide_eq_false (fun h => ?_)
    rcases hk with hk | hk
    ·
     have := k4 hk; have := hfar.2 (by omega); omega
    ·
     have := k5 hk; have := hfar.1 (by omega); omega
   ·
    rw [if_neg hk, if_pos u2, k3 hk, Int.mul_comm 7]
    exact tells_day _
 ·
  by_cases u1 : s.u = 1
  ·
   refine ⟨(x + kk * s.n, decide (0 ≤ x + kk * s.n ∧ x + kk * s.n ≤ 109572)), Ev.congr (fun q => ?_) (Ev.now _), ?_⟩
   ·
    unfold xbE.f; rw [if_neg u2, if_pos u1, ekk, e1, ex1, sis, Option.bind_some]
   ·
    unfold Sp.pt
    by_cases hk : k < -200000 ∨ 200000 < k
    ·
     rw [if_pos hk]
     show decide _ = false
     refine decide_eq_false (fun h => ?_)
     rcases hk with hk | hk
     ·
      have := k4 hk; have := hfar.2 (by omega); omega
     ·
      have := k5 hk; have := hfar.1 (by omega); omega
    ·
     rw [if_neg hk, if_neg u2, if_pos u1, k3 hk]
     exact tells_day _
  ·
   have hpt : ∀ m, (m = if s.u = 4 then 12 * (kk * s.n) else kk * s.n) → Tells (told (if M.xdG x m then some (rolled s.ro x m) else none)) (s.pt x k) := by
    intro m em
    unfold Sp.pt
    by_cases hk : k < -200000 ∨ 200000 < k
    ·
     rw [if_pos hk, if_neg]
     ·
      rfl
     ·
      intro h
      have h1 := h.1; have h2 := h.2.1
      have hb : kk * s.n < -4000 ∨ 4000 < kk * s.n := by
       rcases hk with hk | hk
       ·
        have := k4 hk; have := hfar.2 (by omega); omega
       ·
        have := k5 hk; have := hfar.1 (by omega); omega
      by_cases u4 : s.u = 4
      ·
       rw [if_pos u4] at em; omega
      ·
       rw [if_neg u4] at em; omega
    ·
     rw [if_neg hk, if_neg u2, if_neg u1]
     have : m = s.mons k := by unfold Sp.mons; rw [em, k3 hk]
     rw [this]
     exact tells_told _
   by_cases u4 : s.u = 4
   ·
    refine ⟨_, Ev.congr (fun q => ?_) (point_j0 s x (kk * s.n * 12) hx hro), hpt _ (by rw [if_pos u4, Int.mul_comm 12])⟩
    unfold xbE.f; rw [if_neg u2, if_neg u1, if_pos u4, ekk, e1, e12]
   ·
    refine ⟨_, Ev.congr (fun q => ?_) (point_j0 s x (kk * s.n) hx hro), hpt _ (by rw [if_neg u4])⟩
    unfold xbE.f; rw [if_neg u2, if_neg u1, if_neg u4, ekk, e1]
def Sp.inn (s : Sp) (back : Bool) (x z d : Int) : Nat → Nat → Option (List Int × Bool)
 | 0, _ => none
 | f + 1, i => match s.pt x (d * ((i : Int) + 1)) with
  | none => some ([], false)
  | some n => if n = z then some ([], true) else if (if back = true then n < z else n > z) then some ([], false)
   else if 1200 < (i : Int) + 2 then none else (s.inn back x z d f (i + 1)).map fun p => (n :: p.1, p.2)
def Sp.back (s : Sp) : Bool := decide (s.st ≤ 2)
def cutL (long e : Bool) (l : List Int) : List Int := if long = true ∧ e = false ∧ 0 < l.length then l.take (l.length - 1) else l
def ordL (back : Bool) (l : List Int) : List Int := if back = true then l.reverse else l
def Sp.long (s : Sp) : Bool := decide (s.st = 2 ∨ s.st = 4)
def Sp.out (s : Sp) (l : List Int) (e : Bool) : List Int := s.a :: ordL s.back (cutL s.long e l) ++ [s.b]
noncomputable def Sp.dates (s : Sp) : List Int × Int :=
  if s.chk = 0 then (match (if s.back = true then s.inn true s.b s.a (-1) 1200 0 else s.inn false s.a s.b 1 1200 0) with | none => ([], 81) | some (l, e) => (s.out l e, 0)) else ([], s.chk)
theorem rdI (l : List Int) (i : Nat) (h : i < l.length) : rd l (i : Int) = l[i] := by simp [rd, h]
theorem take_snoc (l : List Int) (i : Nat) (h : i < l.length) : l.take i ++ [l[i]] = l.take (i + 1) := by
  rw [List.take_add_one, List.getElem?_eq_getElem h]; rfl
theorem ord_len (b : Bool) (l : List Int) : (ordL b l).length = l.length := by unfold ordL; split <;> simp
theorem ord_rd (b : Bool) (l : List Int) (i : Nat) (h : i < l.length) : (ordL b l)[i]'(by rw [ord_len]; exact h) = if b = true then rd l ((l.length : Int) - 1 - (i : Int)) else rd l (i : Int) := by
 cases b with
 | true =>
  have e : (l.length : Int) - 1 - (i : Int) = ((l.length - 1 - i : Nat) : Int) := by omega
  rw [if_pos rfl, e, rdI _ _ (by omega)]
  simp [ordL]
 | false => rw [if_neg (by decide), rdI _ _ h]; rfl
theorem cut_len (a e : Bool) (l : List Int) : (cutL a e l).length ≤ l.length := by unfold cutL; split <;> simp <;> omega
theorem chk_ok {s : Sp} (h : s.chk = 0) : s.days ∧ s.fit ∧ ck s.we s.l = 0 := by
 by_cases h1 : s.days
 ·
  by_cases h2 : s.fit
  ·
   rw [chk_fit h1 h2] at h; exact ⟨h1, h2, h⟩
  ·
   rw [chk_unfit h1 h2] at h; exact absurd h (by decide)
 ·
  rw [chk_days h1] at h; exact absurd h (by decide)
theorem sD_l1 (s : Sp) (b : Bool) (l : List Int) (hl : l.length ≤ 5000) : ∀ (f i : Nat), l.length - i = f → i ≤ l.length →
  Ev (fun q => xaD.l1 q b l (s.a :: (ordL b l).take i) (l.length : Int) (i : Int) s.a s.b s.n s.u s.st s.ro s.cv s.lag s.we s.l) (s.a :: ordL b l ++ [s.b], (0 : Int))
 | 0, i, hf, hi => by
  have c1 : ¬ (i : Int) < (l.length : Int) := by omega
  have e : (ordL b l).take i = ordL b l := List.take_of_length_le (by rw [ord_len]; omega)
  have c2 : (s.a :: ordL b l).length < 17592186044416 := by rw [List.length_cons, ord_len]; omega
  refine Ev.step (f := fun _ => some (s.a :: ordL b l ++ [s.b], (0 : Int))) (fun q => ?_) (Ev.now _)
  rw [xaD.l1, if_neg c1, e, if_pos c2]
 | f + 1, i, hf, hi => by
  have hlt : i < l.length := by omega
  have c1 : (i : Int) < (l.length : Int) := by omega
  have c0 : (0 : Int) ≤ (i : Int) := by omega
  have hw : wrap64 ((i : Int) + 1) = ((i + 1 : Nat) : Int) := by rw [w64 (by omega) (by omega)]; push_cast; rfl
  have hv : wrap64 (wrap64 ((l.length : Int) - 1) - (i : Int)) = (l.length : Int) - 1 - (i : Int) := by rw [w64 (x := (l.length : Int) - 1) (by omega) (by omega), w64 (by omega) (by omega)]
  have c2 : (s.a :: (ordL b l).take i).length < 17592186044416 := by rw [List.length_cons, List.length_take]; omega
  have c3 : (0 : Int) ≤ (l.length : Int) - 1 - (i : Int) := by omega
  have c4 : (l.length : Int) - 1 - (i : Int) < (l.length : Int) := by omega
  have hsn : (ordL b l).take i ++ [if b = true then rd l ((l.length : Int) - 1 - (i : Int)) else rd l (i : Int)] = (ordL b l).take (i + 1) := by
   rw [← ord_rd b l i hlt]; exact take_snoc _ i _
  refine Ev.step (fun q => ?_) (sD_l1 s b l hl f (i + 1) (by omega) (by omega))
  rw [xaD.l1, if_pos c1, hw, hv, ← hsn]
  cases b with
  | true => rw [if_pos rfl, if_pos c3, if_pos c4, if_pos c2, if_pos rfl]; rfl
  | false => rw [if_neg (by decide), if_pos c0, if_pos c1, if_pos c2, if_neg (by decide)]; rfl
theorem sD_j7 (s : Sp) (b : Bool) (l : List Int) (hl : l.length ≤ 5000) : Ev (fun q => xaD.j7 q b l s.a s.b s.n s.u s.st s.ro s.cv s.lag s.we s.l) (s.a :: ordL b l ++ [s.b], (0 : Int)) := by
 have hw : wrap64 ((l.length : Int) + 2) = (l.length : Int) + 2 := w64 (by omega) (by omega)
 have c1 : (0 : Int) ≤ (l.length : Int) + 2 := by omega
 have c2 : ((l.length : Int) + 2).toNat ≤ 35184372088832 := by omega
 have h := sD_l1 s b l hl l.length 0 (by omega) (by omega)
 refine Ev.step (fun q => ?_) h
 rw [xaD.j7, hw, if_pos c1, if_pos c2]
 simp only [List.replicate_zero, Option.bind_some, List.length_nil, List.nil_append, List.take_zero]
 rw [if_pos (by decide)]
 rfl
theorem sD_j4 (s : Sp) (b e : Bool) (l : List Int) (hl : l.length ≤ 5000) : Ev (fun q => xaD.j4 q b l e s.a s.b s.n s.u s.st s.ro s.cv s.lag s.we s.l) (s.a :: ordL b (cutL s.long e l) ++ [s.b], (0 : Int)) := by
 have h6 : ∀ t : Bool, (t = true ↔ s.long = true ∧ e = false ∧ 0 < l.length) → Ev (fun q => xaD.j6 q b l t s.a s.b s.n s.u s.st s.ro s.cv s.lag s.we s.l) (s.a :: ordL b (cutL s.long e l) ++ [s.b], (0 : Int)) := by
  intro t ht
  cases t with
  | true =>
   have h := ht.1 rfl
   have hw : wrap64 ((l.length : Int) - 1) = (l.length : Int) - 1 := w64 (by omega) (by omega)
   have c1 : (0 : Int) ≤ (l.length : Int) - 1 := by omega
   have c2 : (l.length : Int) - 1 ≤ (l.length : Int) := by omega
   have e1 : ((l.length : Int) - 1).toNat = l.length - 1 := by omega
   have e2 : cutL s.long e l = l.take (l.length - 1) := if_pos h
   rw [e2]
   refine Ev.step (fun q => ?_) (sD_j7 s b (l.take (l.length - 1)) (by rw [List.length_take]; omega))
   rw [xaD.j6, if_pos rfl, hw, if_pos c1, if_pos c2, e1]
  | false =>
   have e2 : cutL s.long e l = l := if_neg (fun h => by have := ht.2 h; cases this)
   rw [e2]
   exact Ev.step (fun q => by rw [xaD.j6, if_neg (by decide)]) (sD_j7 s b l hl)
 have h5 : ∀ t : Bool, t = s.long → Ev (fun q => xaD.j5 q b l e t s.a s.b s.n s.u s.st s.ro s.cv s.lag s.we s.l) (s.a :: ordL b (cutL s.long e l) ++ [s.b], (0 : Int)) := by
  intro t ht
  cases t with
  | true =>
   cases e with
   | true => exact Ev.step (fun q => by rw [xaD.j5, if_pos rfl, if_pos rfl]) (h6 false (by simp))
   | false =>
    refine Ev.step (fun q => by rw [xaD.j5, if_pos rfl, if_neg (by decide)]) (h6 _ ?_)
    rw [← ht, decide_eq_true_iff]
    constructor
    ·
     intro h; exact ⟨rfl, rfl, by omega⟩
    ·
     intro h; have := h.2.2; omega
  | false => exact Ev.step (fun q => by rw [xaD.j5, if_neg (by decide)]) (h6 false (by rw [← ht]; simp))
 by_cases h2 : s.st = 2
 ·
  exact Ev.step (fun q => by rw [xaD.j4, if_pos h2]) (h5 true (by unfold Sp.long; rw [decide_eq_true (Or.inl h2)]))
 ·
  refine Ev.step (fun q => by rw [xaD.j4, if_neg h2]) (h5 _ ?_)
  unfold Sp.long
  rw [Bool.eq_iff_iff, beq_iff_eq, decide_eq_true_iff]
  constructor
  ·
   intro h; exact .inr h
  ·
   intro h; exact h.resolve_left h2
theorem sD_l0 (s : Sp) (hf : s.fit) (b : Bool) (x z d : Int) (hx : 0 ≤ x ∧ x ≤ 109572) (hd : d = 1 ∨ d = -1) (R : List Int × Int) : ∀ (f i : Nat) (acc : List Int), i + f = 1200 → acc.length = i →
  (match s.inn b x z d f i with | none => R = ([], 81) | some (l, e) => R = (s.a :: ordL b (cutL s.long e (acc ++ l)) ++ [s.b], 0)) → f ≠ 0 →
  Ev (fun q => xaD.l0 q b x z d acc false (i : Int) s.a s.b s.n s.u s.st s.ro s.cv s.lag s.we s.l) R
 | 0, i, acc, h1, h2, h3, h4 => absurd rfl h4
 | f + 1, i, acc, h1, h2, h3, _ => by
  obtain ⟨p, hp, ht⟩ := sPoint s x (d * ((i : Int) + 1)) hx hf
  have c1 : (i : Int) < 1201 := by omega
  have hw1 : wrap64 ((i : Int) + 1) = (i : Int) + 1 := w64 (by omega) (by omega)
  have hw2 : wrap64 (d * ((i : Int) + 1)) = d * ((i : Int) + 1) := by
   rcases hd with rfl | rfl <;> exact w64 (by omega) (by omega)
  have hs : ∀ q, xaD.l0 (q + 1) b x z d acc false (i : Int) s.a s.b s.n s.u s.st s.ro s.cv s.lag s.we s.l = _ := fun q => by rw [xaD.l0, if_pos c1, hw1, hw2]
  refine Ev.step hs (Ev.bind hp ?_)
  clear hs
  rw [Sp.inn] at h3
  cases ho : s.pt x (d * ((i : Int) + 1)) with
  | none =>
   rw [ho] at h3 ht
   simp only at h3
   have hpf : p.2 = false := ht
   rw [List.append_nil] at h3
   rw [h3]
   refine Ev.congr (fun q => if_neg (by rw [hpf]; decide)) (sD_j4 s b false acc (by omega))
  | some n =>
   rw [ho] at h3 ht
   obtain rfl : p = (n, true) := ht
   refine Ev.congr (fun q => if_pos rfl) ?_
   simp only at h3
   by_cases hz : n = z
   ·
    rw [if_pos hz] at h3
    simp only at h3
    rw [List.append_nil] at h3
    rw [h3]
    exact Ev.congr (fun q => if_pos hz) (sD_j4 s b true acc (by omega))
   ·
    rw [if_neg hz] at h3
    refine Ev.congr (fun q => if_neg hz) ?_
    have hj3 : ∀ t : Bool, (t = true ↔ (if b = true then n < z else n > z)) → Ev (fun q => xaD.j3 q b x z d acc false (i : Int) n (i : Int) t s.a s.b s.n s.u s.st s.ro s.cv s.lag s.we s.l) R := by
     intro t htt
     cases t with
     | true =>
      rw [if_pos (htt.1 rfl)] at h3
      simp only at h3
      rw [List.append_nil] at h3
      rw [h3]
      exact Ev.step (fun q => by rw [xaD.j3, if_pos rfl]) (sD_j4 s b false acc (by omega))
     | false =>
      rw [if_neg (fun h => by have := htt.2 h; cases this)] at h3
      have hw3 : wrap64 ((i : Int) + 2) = (i : Int) + 2 := w64 (by omega) (by omega)
      by_cases c5 : 1200 < (i : Int) + 2
      ·
       rw [if_pos c5] at h3
       simp only at h3
       rw [h3]
       exact Ev.step (f := fun _ => some (([] : List Int), (81 : Int))) (fun q => by rw [xaD.j3, if_neg (by decide), hw3, if_pos c5]) (Ev.now _)
      ·
       rw [if_neg c5] at h3
       have c6 : acc.length < 17592186044416 := by omega
       have hw4 : wrap64 ((i : Int) + 1) = ((i + 1 : Nat) : Int) := by rw [hw1]; push_cast; rfl
       refine Ev.step (fun q => by rw [xaD.j3, if_neg (by decide), hw3, if_neg c5, if_pos c6, hw4]) (sD_l0 s hf b x z d hx hd R f (i + 1) (acc ++ [n]) (by omega) (by rw [List.length_append, h2]; rfl) ?_ (by omega))
       cases hi : s.inn b x z d f (i + 1) with
       | none => rw [hi] at h3; exact h3
       | some le => rw [hi] at h3; simpa using h3
    cases b with
    | true =>
     refine Ev.congr (fun q => if_pos rfl) (ev_ite (fun c => hj3 true (by simp [c])) (fun c => hj3 false (by rw [if_pos rfl]; exact ⟨fun h => (by cases h), fun h => absurd h c⟩)))
    | false =>
     exact Ev.congr (fun q => if_neg (by decide)) (hj3 _ (by simp))
theorem sDates (s : Sp) (hw : s.emp) : Ev (fun q => xaD.f q s.a s.b s.n s.u s.st s.ro s.cv s.lag s.we s.l) s.dates := by
 refine Ev.congr (fun q => by unfold xaD.f; rfl) (Ev.bind (sCheck s hw) ?_)
 unfold Sp.dates
 by_cases hc : s.chk = 0
 ·
  rw [if_pos hc]
  obtain ⟨hd, hf, _⟩ := chk_ok hc
  have hst := hf.2.2.2.1
  have hj : ∀ (b : Bool), b = s.back → Ev (fun q => xaD.j0 q b s.a s.b s.n s.u s.st s.ro s.cv s.lag s.we s.l) (match (if s.back = true then s.inn true s.b s.a (-1) 1200 0 else s.inn false s.a s.b 1 1200 0) with | none => ([], 81) | some (l, e) => (s.out l e, 0)) := by
   intro b hb
   unfold Sp.out
   rw [← hb]
   cases b with
   | true =>
    rw [if_pos rfl]
    refine Ev.step (fun q => by rw [xaD.j0, if_pos rfl]) (Ev.step (fun q => by rw [xaD.j1]; rfl) (sD_l0 s hf true s.b s.a (-1) hd.2 (.inr rfl) _ 1200 0 [] rfl rfl ?_ (by decide)))
    cases s.inn true s.b s.a (-1) 1200 0 <;> rfl
   | false =>
    rw [if_neg (by decide)]
    refine Ev.step (fun q => by rw [xaD.j0, if_neg (by decide)]) (Ev.step (fun q => by rw [xaD.j1]; rfl) (sD_l0 s hf false s.a s.b 1 hd.1 (.inl rfl) _ 1200 0 [] rfl rfl ?_ (by decide)))
    cases s.inn false s.a s.b 1 1200 0 <;> rfl
  refine Ev.congr (fun q => if_pos hc) (ev_ite (fun h1 => hj true (by unfold Sp.back; rw [decide_eq_true (by omega)])) (fun h1 => hj _ ?_))
  unfold Sp.back
  rw [Bool.eq_iff_iff, beq_iff_eq, decide_eq_true_iff]; omega
 ·
  rw [if_neg hc]
  exact Ev.congr (fun q => if_neg hc) (Ev.now _)
def Sp.inner (s : Sp) : Option (List Int × Bool) := if s.back = true then s.inn true s.b s.a (-1) 1200 0 else s.inn false s.a s.b 1 1200 0
theorem inn_get (s : Sp) (b : Bool) (x z d : Int) : ∀ (f i : Nat) (p : List Int × Bool), s.inn b x z d f i = some p → p.1.length ≤ f ∧ ∀ (j : Nat) (h : j < p.1.length), s.pt x (d * (((i + j : Nat) : Int) + 1)) = some p.1[j]
 | 0, i, p, h => by cases h
 | f + 1, i, p, h => by
  have hnil : ∀ e : Bool, p = (([] : List Int), e) → p.1.length ≤ f + 1 ∧ ∀ (j : Nat) (h : j < p.1.length), s.pt x (d * (((i + j : Nat) : Int) + 1)) = some p.1[j] := by
   intro e he; subst he; exact ⟨Nat.zero_le _, fun j h => absurd h (Nat.not_lt_zero _)⟩
  rw [Sp.inn] at h
  cases ho : s.pt x (d * ((i : Int) + 1)) with
  | none => rw [ho] at h; simp only [Option.some.injEq] at h; exact hnil _ h.symm
  | some n =>
   rw [ho] at h
   simp only at h
   by_cases c1 : n = z
   ·
    rw [if_pos c1] at h; simp only [Option.some.injEq] at h; exact hnil _ h.symm
   ·
    rw [if_neg c1] at h
    by_cases c2 : (if b = true then n < z else n > z)
    ·
     rw [if_pos c2] at h; simp only [Option.some.injEq] at h; exact hnil _ h.symm
    ·
     rw [if_neg c2] at h
     by_cases c3 : 1200 < (i : Int) + 2
     ·
      rw [if_pos c3] at h; cases h
     ·
      rw [if_neg c3] at h
      obtain ⟨q, hq, rfl⟩ := Option.map_eq_some_iff.1 h
      obtain ⟨hl, hg⟩ := inn_get s b x z d f (i + 1) q hq
      refine ⟨by simp only [List.length_cons]; omega, fun j hj => ?_⟩
      cases j with
      | zero => simpa using ho
      | succ j =>
       have := hg j (by simpa using hj)
       rw [show i + (j + 1) = i + 1 + j by omega, this]
       rfl
theorem dates_ok {s : Sp} (h : s.dates.2 = 0) : s.chk = 0 ∧ ∃ l e, s.inner = some (l, e) ∧ s.dates = (s.out l e, 0) := by
 unfold Sp.dates at h
 by_cases hc : s.chk = 0
 ·
  refine ⟨hc, ?_⟩
  rw [if_pos hc] at h
  unfold Sp.dates
  rw [if_pos hc]
  show ∃ l e, s.inner = some (l, e) ∧ (match s.inner with | none => (([] : List Int), (81 : Int)) | some (l, e) => (s.out l e, 0)) = (s.out l e, 0)
  have h' : (match s.inner with | none => (([] : List Int), (81 : Int)) | some (l, e) => (s.out l e, 0)).2 = 0 := h
  cases hi : s.inner with
  | none => rw [hi] at h'; exact absurd (show (81 : Int) = 0 from h') (by decide)
  | some p => exact ⟨p.1, p.2, rfl, rfl⟩
 ·
  rw [if_neg hc] at h
  exact absurd h hc
theorem inner_pt {s : Sp} {l : List Int} {e : Bool} (h : s.inner = some (l, e)) : l.length ≤ 1200 ∧ ∀ (j : Nat) (hj : j < l.length), (if s.back = true then s.pt s.b (-((j : Int) + 1)) else s.pt s.a ((j : Int) + 1)) = some l[j] := by
 unfold Sp.inner at h
 cases hb : s.back with
 | true =>
  rw [hb, if_pos rfl] at h
  obtain ⟨h1, h2⟩ := inn_get s _ _ _ _ _ _ _ h
  refine ⟨h1, fun j hj => ?_⟩
  rw [if_pos rfl]
  have := h2 j hj
  rw [show (-1 : Int) * (((0 + j : Nat) : Int) + 1) = -((j : Int) + 1) by push_cast; omega] at this
  exact this
 | false =>
  rw [hb, if_neg (by decide)] at h
  obtain ⟨h1, h2⟩ := inn_get s _ _ _ _ _ _ _ h
  refine ⟨h1, fun j hj => ?_⟩
  rw [if_neg (by decide)]
  have := h2 j hj
  rw [show (1 : Int) * (((0 + j : Nat) : Int) + 1) = (j : Int) + 1 by push_cast; omega] at this
  exact this
theorem out_len (s : Sp) (l : List Int) (e : Bool) : (s.out l e).length = (cutL s.long e l).length + 2 := by
  unfold Sp.out; rw [List.length_append, List.length_cons, ord_len]; rfl
theorem dates_two {s : Sp} (h : s.dates.2 = 0) : 2 ≤ s.dates.1.length ∧ s.dates.1.length ≤ 1202 := by
 obtain ⟨_, l, e, hi, hd⟩ := dates_ok h
 have h1 := (inner_pt hi).1
 have h2 := cut_len s.long e l;have h3 := out_len s l e
 rw [hd]
 show 2 ≤ (s.out l e).length ∧ (s.out l e).length ≤ 1202
 omega
def Sp.adj (s : Sp) (x : Int) : Int × Int := H.adj0 x
def Sp.per1 (s : Sp) (x y : Int) : S145 × Int :=
 if (s.adj x).2 = 0 then
  if (s.adj y).2 = 0 then
   if s.lag > 0 then (z145, 0)
   else (⟨x, y, (s.adj x).1, (s.adj y).1, (s.adj y).1⟩, 0)
  else (z145, (s.adj y).2)
 else (z145, (s.adj x).2)
def Sp.perF (s : Sp) (l : List Int) : Nat → Nat → List S145 → List S145 × Int
  | 0, _, acc => (acc, 0)
  | f + 1, i, acc => if (s.per1 (rd l (i : Int)) (rd l ((i + 1 : Nat) : Int))).2 = 0 then s.perF l f (i + 1) (acc ++ [(s.per1 (rd l (i : Int)) (rd l ((i + 1 : Nat) : Int))).1]) else ([], (s.per1 (rd l (i : Int)) (rd l ((i + 1 : Nat) : Int))).2)
noncomputable def Sp.xdV (s : Sp) : List S145 × Int := if s.dates.2 = 0 then s.perF s.dates.1 (s.dates.1.length - 1) 0 [] else ([], s.dates.2)
theorem sP_l0 (s : Sp) (hw : s.emp) (l : List Int) (hl : l.length ≤ 5000) : ∀ (f i : Nat) (acc : List S145), l.length - 1 - i = f → i + 1 ≤ l.length → acc.length = i →
  Ev (fun q => xaN.l0 q l acc ((l.length : Int) - 1) (i : Int) s.a s.b s.n s.u s.st s.ro s.cv s.lag s.we s.l) (s.perF l f i acc)
 | 0, i, acc, hf, hi, ha => by
  refine Ev.step (f := fun _ => some (acc, (0 : Int))) (fun q => ?_) (Ev.now _)
  rw [xaN.l0, if_neg (by omega)]
 | f + 1, i, acc, hf, hi, ha => by
  have c1 : (i : Int) < (l.length : Int) - 1 := by omega
  have c0 : (0 : Int) ≤ (i : Int) := by omega
  have c2 : (i : Int) < (l.length : Int) := by omega
  have c3 : (0 : Int) ≤ ((i + 1 : Nat) : Int) := by omega
  have c4 : ((i + 1 : Nat) : Int) < (l.length : Int) := by omega
  have c5 : acc.length < 3518437208883 := by omega
  have hA : ∀ x, xcA.f s.we s.l x s.cv = some (s.adj x) := fun x => if_pos ⟨hw.1, hw.2.1, hw.2.2.1⟩
  have hrec := fun p => sP_l0 s hw l hl f (i + 1) (acc ++ [p]) (by omega) (by omega) (by rw [List.length_append, ha]; rfl)
  have hw1 : wrap64 ((i : Int) + 1) = ((i + 1 : Nat) : Int) := by rw [w64 (by omega) (by omega)]; push_cast; rfl
  refine Ev.step (fun q => by rw [xaN.l0, if_pos c1, if_pos c0, if_pos c2, hw1, if_pos c3, if_pos c4, hA, Option.bind_some]) ?_
  unfold Sp.perF Sp.per1
  by_cases e1 : (s.adj (rd l (i : Int))).2 = 0
  ·
   rw [if_pos e1]
   refine Ev.congr (fun q => by rw [if_pos e1, hA, Option.bind_some]) ?_
   by_cases e2 : (s.adj (rd l ((i + 1 : Nat) : Int))).2 = 0
   ·
    rw [if_pos e2]
    refine Ev.congr (fun q => if_pos e2) ?_
    have e3 : ¬ s.lag > 0 := by rw [hw.2.2.2]; decide
    rw [if_neg e3, if_pos rfl]
    exact Ev.congr (fun q => by rw [if_neg e3, if_pos c5]) (hrec _)
   ·
    rw [if_neg e2, if_neg e2]
    exact Ev.congr (fun q => if_neg e2) (Ev.now _)
  ·
   rw [if_neg e1, if_neg e1]
   exact Ev.congr (fun q => if_neg e1) (Ev.now _)
theorem sPeriods (s : Sp) (hw : s.emp) : Ev (fun q => xaN.f q s.a s.b s.n s.u s.st s.ro s.cv s.lag s.we s.l) s.xdV := by
 refine Ev.congr (fun q => by unfold xaN.f; rfl) (Ev.bind (sDates s hw) ?_)
 unfold Sp.xdV
 by_cases h : s.dates.2 = 0
 ·
  obtain ⟨h2, h3⟩ := dates_two h
  obtain ⟨hc, _⟩ := dates_ok h
  have c1 : 0 ≤ (s.dates.1.length : Int) - 1 := by omega
  have c2 : ((s.dates.1.length : Int) - 1).toNat ≤ 7036874417766 := by omega
  have hw1 : wrap64 ((s.dates.1.length : Int) - 1) = (s.dates.1.length : Int) - 1 := w64 (by omega) (by omega)
  rw [if_pos h]
  refine Ev.congr (fun q => by rw [if_pos h, hw1, if_pos c1, if_pos c2]) ?_
  exact sP_l0 s hw _ (by omega) _ 0 [] (by omega) (by omega) rfl
 ·
  rw [if_neg h]
  exact Ev.congr (fun q => if_neg h) (Ev.now _)
theorem perF_len (s : Sp) (l : List Int) : ∀ (f i : Nat) (acc : List S145), (s.perF l f i acc).1.length ≤ acc.length + f
 | 0, i, acc => by rw [Sp.perF]; exact Nat.le_refl _
 | f + 1, i, acc => by
  rw [Sp.perF]
  split
  ·
   refine Nat.le_trans (perF_len s l f (i + 1) _) ?_
   rw [List.length_append]; simp only [List.length_cons, List.length_nil]; omega
  ·
   exact Nat.zero_le _
end Go.Proofs.YtkabcgmegljebaaGreatDoor.S
namespace Go.Proofs.YtkabcgmegljebaaGreatDoor.Q
open Go.RowKit Go.Proofs.YtkabcgmegljebaaGreatDoorW.PrintWords Go.Proofs.YtkabcgmegljebaaGreatDoorW.PrintLast Go.Proofs.YtkabcgmegljebaaGreatDoorW.PrintMore
attribute [local go_sem] xcP xcM xcY xcX xcF xcE xcN xcL
-- NOT PRINTED: function 46 (code_op)
-- NOT PRINTED: function 27 (code_Compile)
def xbU.f (a0 : Nat) : Option (Bool) := (xdW.f a0).bind fun t857 => (some (decide (t857 < 4)))
theorem xbU.calls (a0 : Nat) (r : Bool) (w : World) (h : xbU.f a0 = some r) :
  Calls Tryz.prog 97 #[.float .f64 a0] w fun e w' => e = .returned (.bool r) ∧ Drawn0 w w' := by
 have H : ((xdW.f a0).bind fun t857 => (some (decide (t857 < 4)))) = some r := h
 clear h;replace H := Option.bind_eq_some_iff.mp H
 obtain ⟨t857, A20, H⟩ := H
 replace H : (some (decide (t857 < 4))) = some r := H
 have A2 := Aside0.mk A20;clear A20
 obtain rfl := Option.some.inj H
 go_enter Tryz.func97, Tryz.ntmps97
 go_wp2_with (first | ((with_reducible refine gG 117 ?_); refine goA (some 4) Tryz.func117 #[.float .f64 a0] ?_; (with_reducible refine (xdW.calls a0 t857 _ A2.out).mono ?_); rintro e w' ⟨rfl, ⟨nd, rfl⟩⟩; refine ⟨_, rfl, ?_⟩))
 go_ret
 exact ⟨eS, eD⟩
def xcK.f (a0 : Int) : Option (Bool) := if a0 ≥ 1 then (some (decide (a0 ≤ 8))) else (some false)
theorem xcK.calls (a0 : Int) (r : Bool) (w : World) (h : xcK.f a0 = some r) :
  Calls Tryz.prog 141 #[.int .i64 a0] w fun e w' => e = .returned (.bool r) ∧ Drawn0 w w' := by
 have H : (if a0 ≥ 1 then (some (decide (a0 ≤ 8))) else (some false)) = some r := h
 clear h
 by_cases c2 : a0 ≥ 1
 ·
  rw [if_pos c2] at H
  have c2b0 : decide (1 ≤ a0) = true := decide_eq_true c2
  clear c2
  obtain rfl := Option.some.inj H
  go_enter Tryz.func141, Tryz.ntmps141
  go_wp2
  go_ret
  exact ⟨eS, eD⟩
 ·
  rw [if_neg c2] at H
  have c2b0 : decide (1 ≤ a0) = false := decide_eq_false c2
  clear c2
  obtain rfl := Option.some.inj H
  go_enter Tryz.func141, Tryz.ntmps141
  go_wp2
  go_ret
  exact ⟨eS, eD⟩
-- NOT PRINTED: function 193 (cal_kind)
def xeR.f (k : Nat) (a0_0 a0_1 a0_2 : Int) (a0_3 a0_4 : Nat) (a0_5 a0_6 a0_7 a0_8 a0_9 a0_10 a0_11 a0_12 a0_13 : Int) (l0_14 : List (S214)) (a1 : Int) : Option ((List (S145)) × Int) := if a0_0 = a1 then ((xcK.f a0_2).bind fun t969 => (if t969 = true then ((xbU.f a0_3).bind fun t970 => (if t970 = true then ((xbU.f a0_4).bind fun t971 => (if t971 = true then ((xaN.f k a0_5 a0_6 a0_7 a0_8 a0_9 a0_10 a0_11 a0_12 a0_13 l0_14).bind fun bt972 => (some (bt972.1, bt972.2))) else (some (([] : List (S145)), 91)))) else (some (([] : List (S145)), 91)))) else (some (([] : List (S145)), 140)))) else (some (([] : List (S145)), 90))
theorem xeR.calls (k : Nat) (a0_0 a0_1 a0_2 : Int) (a0_3 a0_4 : Nat) (a0_5 a0_6 a0_7 a0_8 a0_9 a0_10 a0_11 a0_12 a0_13 : Int) (A0_14 : Option Addr) (c0_14 : Nat) (l0_14 : List (S214)) (a1 : Int) (r1 : List (S145)) (r2 : Int) (w : World) (hr0_14 : Kd.C k214 w A0_14 l0_14.length l0_14) (hc0_14 : l0_14.length ≤ c0_14) (h : xeR.f k a0_0 a0_1 a0_2 a0_3 a0_4 a0_5 a0_6 a0_7 a0_8 a0_9 a0_10 a0_11 a0_12 a0_13 l0_14 a1 = some (r1, r2)) :
  Calls Tryz.prog 118 #[.agg #[.int .i64 a0_0, .int .i64 a0_1, .int .i64 a0_2, .float .f64 a0_3, .float .f64 a0_4, .int .i64 a0_5, .int .i64 a0_6, .int .i64 a0_7, .int .i64 a0_8, .int .i64 a0_9, .int .i64 a0_10, .int .i64 a0_11, .int .i64 a0_12, .int .i64 a0_13, .slice A0_14 l0_14.length c0_14], .int .i64 a1] w fun e w' => ∃ v0_ : Value, e = .returned (.tuple #[v0_, .int .i64 r2]) ∧ Kd.R k145 145 w' w.heap.size (fun _ => True) v0_ r1 ∧ Below w.heap.size w w' := by
 have hu158 := Tryz.underlying158;have hu117 := Tryz.underlying117;have HR0_14 := Aside0.mk hr0_14;have HC0_14 := Aside0.mk hc0_14;clear hr0_14 hc0_14
 have HB := Aside0.mk (Below.refl w.heap.size w)
 have H : (if a0_0 = a1 then ((xcK.f a0_2).bind fun t969 => (if t969 = true then ((xbU.f a0_3).bind fun t970 => (if t970 = true then ((xbU.f a0_4).bind fun t971 => (if t971 = true then ((xaN.f k a0_5 a0_6 a0_7 a0_8 a0_9 a0_10 a0_11 a0_12 a0_13 l0_14).bind fun bt972 => (some (bt972.1, bt972.2))) else (some (([] : List (S145)), 91)))) else (some (([] : List (S145)), 91)))) else (some (([] : List (S145)), 140)))) else (some (([] : List (S145)), 90))) = some (r1, r2) := h
 clear h
 by_cases c3 : a0_0 = a1
 ·
  rw [if_pos c3] at H
  have c3b0 : (a0_0 == a1) = true := beq_iff_eq.mpr c3
  have c3b1 : (a0_0 != a1) = false := bne_eq_false_iff_eq.mpr c3
  clear c3;replace H := Option.bind_eq_some_iff.mp H
  obtain ⟨t969, A40, H⟩ := H
  replace H : (if t969 = true then ((xbU.f a0_3).bind fun t970 => (if t970 = true then ((xbU.f a0_4).bind fun t971 => (if t971 = true then ((xaN.f k a0_5 a0_6 a0_7 a0_8 a0_9 a0_10 a0_11 a0_12 a0_13 l0_14).bind fun bt972 => (some (bt972.1, bt972.2))) else (some (([] : List (S145)), 91)))) else (some (([] : List (S145)), 91)))) else (some (([] : List (S145)), 140))) = some (r1, r2) := H
  have A4 := Aside0.mk A40;clear A40
  by_cases c5 : t969 = true
  ·
   subst c5
   have H1 : ((xbU.f a0_3).bind fun t970 => (if t970 = true then ((xbU.f a0_4).bind fun t971 => (if t971 = true then ((xaN.f k a0_5 a0_6 a0_7 a0_8 a0_9 a0_10 a0_11 a0_12 a0_13 l0_14).bind fun bt972 => (some (bt972.1, bt972.2))) else (some (([] : List (S145)), 91)))) else (some (([] : List (S145)), 91)))) = some (r1, r2) := by rw [if_pos rfl] at H; exact H
   clear H;have H := H1;clear H1;replace H := Option.bind_eq_some_iff.mp H
   obtain ⟨t970, A60, H⟩ := H
   replace H : (if t970 = true then ((xbU.f a0_4).bind fun t971 => (if t971 = true then ((xaN.f k a0_5 a0_6 a0_7 a0_8 a0_9 a0_10 a0_11 a0_12 a0_13 l0_14).bind fun bt972 => (some (bt972.1, bt972.2))) else (some (([] : List (S145)), 91)))) else (some (([] : List (S145)), 91))) = some (r1, r2) := H
   have A6 := Aside0.mk A60;clear A60
   by_cases c7 : t970 = true
   ·
    subst c7
    have H1 : ((xbU.f a0_4).bind fun t971 => (if t971 = true then ((xaN.f k a0_5 a0_6 a0_7 a0_8 a0_9 a0_10 a0_11 a0_12 a0_13 l0_14).bind fun bt972 => (some (bt972.1, bt972.2))) else (some (([] : List (S145)), 91)))) = some (r1, r2) := by rw [if_pos rfl] at H; exact H
    clear H;have H := H1;clear H1;replace H := Option.bind_eq_some_iff.mp H
    obtain ⟨t971, A80, H⟩ := H
    replace H : (if t971 = true then ((xaN.f k a0_5 a0_6 a0_7 a0_8 a0_9 a0_10 a0_11 a0_12 a0_13 l0_14).bind fun bt972 => (some (bt972.1, bt972.2))) else (some (([] : List (S145)), 91))) = some (r1, r2) := H
    have A8 := Aside0.mk A80;clear A80
    by_cases c9 : t971 = true
    ·
     subst c9
     have H1 : ((xaN.f k a0_5 a0_6 a0_7 a0_8 a0_9 a0_10 a0_11 a0_12 a0_13 l0_14).bind fun bt972 => (some (bt972.1, bt972.2))) = some (r1, r2) := by rw [if_pos rfl] at H; exact H
     clear H;have H := H1;clear H1;replace H := Option.bind_eq_some_iff.mp H
     obtain ⟨⟨t972, t975⟩, A100, H⟩ := H
     replace H : (some (t972, t975)) = some (r1, r2) := H
     have A10 := Aside0.mk A100;clear A100
     simp only [Option.some.injEq, Prod.mk.injEq] at H
     obtain ⟨rfl, rfl⟩ := H
     go_enter Tryz.func118, Tryz.ntmps118
     go_wp2_with (first | ((with_reducible refine xaU (N := 2) rfl ?_); refine xaT ?hg (N := 2) ?hd (cs := #[.int .i64 a0_0, .int .i64 a0_1, .int .i64 a0_2, .float .f64 a0_3, .float .f64 a0_4, .int .i64 a0_5, .int .i64 a0_6, .int .i64 a0_7, .int .i64 a0_8, .int .i64 a0_9, .int .i64 a0_10, .int .i64 a0_11, .int .i64 a0_12, .int .i64 a0_13, .slice A0_14 l0_14.length c0_14]) (t := 158) ?hr ?_; (case hd => rfl); (case hg => rfl); (case hr => first | (go_simp; done) | (go_simp; rfl)); intro gb968 hg w11 hbox hb; have BK968 := Aside0.mk (hbox); have GW968 := bG hg; have GE968 := bG hg; replace HB := bS hb; clear hb hbox hg; have hcz12_0 : w11.cell? ⟨gb968, 0, none⟩ = some (.int .i64 a0_0) := (xaA BK968.out 0).trans rfl; have hcz12_1 : w11.cell? ⟨gb968, 1, none⟩ = some (.int .i64 a0_1) := (xaA BK968.out 1).trans rfl; have hcz12_2 : w11.cell? ⟨gb968, 2, none⟩ = some (.int .i64 a0_2) := (xaA BK968.out 2).trans rfl; have hcz12_3 : w11.cell? ⟨gb968, 3, none⟩ = some (.float .f64 a0_3) := (xaA BK968.out 3).trans rfl; have hcz12_4 : w11.cell? ⟨gb968, 4, none⟩ = some (.float .f64 a0_4) := (xaA BK968.out 4).trans rfl; have hcz12_5 : w11.cell? ⟨gb968, 5, none⟩ = some (.int .i64 a0_5) := (xaA BK968.out 5).trans rfl; have hcz12_6 : w11.cell? ⟨gb968, 6, none⟩ = some (.int .i64 a0_6) := (xaA BK968.out 6).trans rfl; have hcz12_7 : w11.cell? ⟨gb968, 7, none⟩ = some (.int .i64 a0_7) := (xaA BK968.out 7).trans rfl; have hcz12_8 : w11.cell? ⟨gb968, 8, none⟩ = some (.int .i64 a0_8) := (xaA BK968.out 8).trans rfl; have hcz12_9 : w11.cell? ⟨gb968, 9, none⟩ = some (.int .i64 a0_9) := (xaA BK968.out 9).trans rfl; have hcz12_10 : w11.cell? ⟨gb968, 10, none⟩ = some (.int .i64 a0_10) := (xaA BK968.out 10).trans rfl; have hcz12_11 : w11.cell? ⟨gb968, 11, none⟩ = some (.int .i64 a0_11) := (xaA BK968.out 11).trans rfl; have hcz12_12 : w11.cell? ⟨gb968, 12, none⟩ = some (.int .i64 a0_12) := (xaA BK968.out 12).trans rfl; have hcz12_13 : w11.cell? ⟨gb968, 13, none⟩ = some (.int .i64 a0_13) := (xaA BK968.out 13).trans rfl; have hcz12_14 : w11.cell? ⟨gb968, 14, none⟩ = some (.slice A0_14 l0_14.length c0_14) := (xaA BK968.out 14).trans rfl; have hfz12_0 := xaB BK968.out 0; have hfz12_1 := xaB BK968.out 1; have hfz12_2 := xaB BK968.out 2; have hfz12_3 := xaB BK968.out 3; have hfz12_4 := xaB BK968.out 4; have hfz12_5 := xaB BK968.out 5; have hfz12_6 := xaB BK968.out 6; have hfz12_7 := xaB BK968.out 7; have hfz12_8 := xaB BK968.out 8; have hfz12_9 := xaB BK968.out 9; have hfz12_10 := xaB BK968.out 10; have hfz12_11 := xaB BK968.out 11; have hfz12_12 := xaB BK968.out 12; have hfz12_13 := xaB BK968.out 13; have hfz12_14 := xaB BK968.out 14) | ((with_reducible refine gG 141 ?_); refine goA (some 14) Tryz.func141 #[.int .i64 a0_2] ?_; (with_reducible refine (xcK.calls a0_2 true _ A4.out).mono ?_); rintro e w' ⟨rfl, ⟨nd, rfl⟩⟩; refine ⟨_, rfl, ?_⟩) | ((with_reducible refine gG 97 ?_); refine goA (some 19) Tryz.func97 #[.float .f64 a0_3] ?_; (with_reducible refine (xbU.calls a0_3 true _ A6.out).mono ?_); rintro e w' ⟨rfl, ⟨nd, rfl⟩⟩; refine ⟨_, rfl, ?_⟩) | (go_at_call 97; (with_reducible refine (xbU.calls a0_4 true _ A8.out).mono ?_); rintro e w' ⟨rfl, ⟨nd, rfl⟩⟩) | ((with_reducible refine gG 142 ?_); refine goA (some 29) Tryz.func142 #[.agg #[.int .i64 a0_5, .int .i64 a0_6, .int .i64 a0_7, .int .i64 a0_8, .int .i64 a0_9, .int .i64 a0_10, .int .i64 a0_11, .int .i64 a0_12, .int .i64 a0_13, .slice A0_14 l0_14.length c0_14]] ?_; (with_reducible refine (xaN.calls k a0_5 a0_6 a0_7 a0_8 a0_9 a0_10 a0_11 a0_12 a0_13 _ _ l0_14 t972 t975 _ ?side1 ?side2 A10.out).mono ?_); (case side1 => repeat (first | exact (Kd.xbP HR0_14.out bB) | (with_reducible refine Kd.C_alloc ?_ _) | (with_reducible refine Kd.C_drewN ?_ _) | (with_reducible refine Kd.C_drew ?_))); (case side2 => exact HC0_14.out); rintro e w13 ⟨v973, rfl, ho0, hb⟩; refine ⟨_, rfl, ?_⟩; have HO974 := Aside0.mk (Kd.xfP ho0 (xbG bB)); replace BK968 := bK BK968 hb; replace HB := bS hb; (try clear hb); (try clear hb2); (try clear hk); (try clear hi); (try clear ho0)))
     go_ret2
     exact ⟨_, eW, (bR HO974), bB⟩
    ·
     replace c9 := Bool.eq_false_iff.mpr c9;subst c9
     have H1 : (some (([] : List (S145)), 91)) = some (r1, r2) := by rw [if_neg (show ¬ (false = true) by decide)] at H; exact H
     clear H;have H := H1;clear H1
     simp only [Option.some.injEq, Prod.mk.injEq] at H
     obtain ⟨rfl, rfl⟩ := H
     go_enter Tryz.func118, Tryz.ntmps118
     go_wp2_with (first | ((with_reducible refine xaU (N := 2) rfl ?_); refine xaT ?hg (N := 2) ?hd (cs := #[.int .i64 a0_0, .int .i64 a0_1, .int .i64 a0_2, .float .f64 a0_3, .float .f64 a0_4, .int .i64 a0_5, .int .i64 a0_6, .int .i64 a0_7, .int .i64 a0_8, .int .i64 a0_9, .int .i64 a0_10, .int .i64 a0_11, .int .i64 a0_12, .int .i64 a0_13, .slice A0_14 l0_14.length c0_14]) (t := 158) ?hr ?_; (case hd => rfl); (case hg => rfl); (case hr => first | (go_simp; done) | (go_simp; rfl)); intro gb968 hg w14 hbox hb; have BK968 := Aside0.mk (hbox); have GW968 := bG hg; have GE968 := bG hg; replace HB := bS hb; clear hb hbox hg; have hcz15_0 : w14.cell? ⟨gb968, 0, none⟩ = some (.int .i64 a0_0) := (xaA BK968.out 0).trans rfl; have hcz15_1 : w14.cell? ⟨gb968, 1, none⟩ = some (.int .i64 a0_1) := (xaA BK968.out 1).trans rfl; have hcz15_2 : w14.cell? ⟨gb968, 2, none⟩ = some (.int .i64 a0_2) := (xaA BK968.out 2).trans rfl; have hcz15_3 : w14.cell? ⟨gb968, 3, none⟩ = some (.float .f64 a0_3) := (xaA BK968.out 3).trans rfl; have hcz15_4 : w14.cell? ⟨gb968, 4, none⟩ = some (.float .f64 a0_4) := (xaA BK968.out 4).trans rfl; have hcz15_5 : w14.cell? ⟨gb968, 5, none⟩ = some (.int .i64 a0_5) := (xaA BK968.out 5).trans rfl; have hcz15_6 : w14.cell? ⟨gb968, 6, none⟩ = some (.int .i64 a0_6) := (xaA BK968.out 6).trans rfl; have hcz15_7 : w14.cell? ⟨gb968, 7, none⟩ = some (.int .i64 a0_7) := (xaA BK968.out 7).trans rfl; have hcz15_8 : w14.cell? ⟨gb968, 8, none⟩ = some (.int .i64 a0_8) := (xaA BK968.out 8).trans rfl; have hcz15_9 : w14.cell? ⟨gb968, 9, none⟩ = some (.int .i64 a0_9) := (xaA BK968.out 9).trans rfl; have hcz15_10 : w14.cell? ⟨gb968, 10, none⟩ = some (.int .i64 a0_10) := (xaA BK968.out 10).trans rfl; have hcz15_11 : w14.cell? ⟨gb968, 11, none⟩ = some (.int .i64 a0_11) := (xaA BK968.out 11).trans rfl; have hcz15_12 : w14.cell? ⟨gb968, 12, none⟩ = some (.int .i64 a0_12) := (xaA BK968.out 12).trans rfl; have hcz15_13 : w14.cell? ⟨gb968, 13, none⟩ = some (.int .i64 a0_13) := (xaA BK968.out 13).trans rfl; have hcz15_14 : w14.cell? ⟨gb968, 14, none⟩ = some (.slice A0_14 l0_14.length c0_14) := (xaA BK968.out 14).trans rfl; have hfz15_0 := xaB BK968.out 0; have hfz15_1 := xaB BK968.out 1; have hfz15_2 := xaB BK968.out 2; have hfz15_3 := xaB BK968.out 3; have hfz15_4 := xaB BK968.out 4; have hfz15_5 := xaB BK968.out 5; have hfz15_6 := xaB BK968.out 6; have hfz15_7 := xaB BK968.out 7; have hfz15_8 := xaB BK968.out 8; have hfz15_9 := xaB BK968.out 9; have hfz15_10 := xaB BK968.out 10; have hfz15_11 := xaB BK968.out 11; have hfz15_12 := xaB BK968.out 12; have hfz15_13 := xaB BK968.out 13; have hfz15_14 := xaB BK968.out 14) | ((with_reducible refine gG 141 ?_); refine goA (some 14) Tryz.func141 #[.int .i64 a0_2] ?_; (with_reducible refine (xcK.calls a0_2 true _ A4.out).mono ?_); rintro e w' ⟨rfl, ⟨nd, rfl⟩⟩; refine ⟨_, rfl, ?_⟩) | ((with_reducible refine gG 97 ?_); refine goA (some 19) Tryz.func97 #[.float .f64 a0_3] ?_; (with_reducible refine (xbU.calls a0_3 true _ A6.out).mono ?_); rintro e w' ⟨rfl, ⟨nd, rfl⟩⟩; refine ⟨_, rfl, ?_⟩) | (go_at_call 97; (with_reducible refine (xbU.calls a0_4 false _ A8.out).mono ?_); rintro e w' ⟨rfl, ⟨nd, rfl⟩⟩))
     go_ret2
     exact ⟨_, eW, by first | exact Kd.R_nil _ _ _ _ _ | exact Kd.N_nil _ _ _ _ _ | exact Kd.V_nil _ _ _ _ _ | exact Kd.Q_nil _ _ _ _ _ | exact Kd.S_nil _ _ _ _ _, bB⟩
   ·
    replace c7 := Bool.eq_false_iff.mpr c7;subst c7
    have H1 : (some (([] : List (S145)), 91)) = some (r1, r2) := by rw [if_neg (show ¬ (false = true) by decide)] at H; exact H
    clear H;have H := H1;clear H1
    simp only [Option.some.injEq, Prod.mk.injEq] at H
    obtain ⟨rfl, rfl⟩ := H
    go_enter Tryz.func118, Tryz.ntmps118
    go_wp2_with (first | ((with_reducible refine xaU (N := 2) rfl ?_); refine xaT ?hg (N := 2) ?hd (cs := #[.int .i64 a0_0, .int .i64 a0_1, .int .i64 a0_2, .float .f64 a0_3, .float .f64 a0_4, .int .i64 a0_5, .int .i64 a0_6, .int .i64 a0_7, .int .i64 a0_8, .int .i64 a0_9, .int .i64 a0_10, .int .i64 a0_11, .int .i64 a0_12, .int .i64 a0_13, .slice A0_14 l0_14.length c0_14]) (t := 158) ?hr ?_; (case hd => rfl); (case hg => rfl); (case hr => first | (go_simp; done) | (go_simp; rfl)); intro gb968 hg w16 hbox hb; have BK968 := Aside0.mk (hbox); have GW968 := bG hg; have GE968 := bG hg; replace HB := bS hb; clear hb hbox hg; have hcz17_0 : w16.cell? ⟨gb968, 0, none⟩ = some (.int .i64 a0_0) := (xaA BK968.out 0).trans rfl; have hcz17_1 : w16.cell? ⟨gb968, 1, none⟩ = some (.int .i64 a0_1) := (xaA BK968.out 1).trans rfl; have hcz17_2 : w16.cell? ⟨gb968, 2, none⟩ = some (.int .i64 a0_2) := (xaA BK968.out 2).trans rfl; have hcz17_3 : w16.cell? ⟨gb968, 3, none⟩ = some (.float .f64 a0_3) := (xaA BK968.out 3).trans rfl; have hcz17_4 : w16.cell? ⟨gb968, 4, none⟩ = some (.float .f64 a0_4) := (xaA BK968.out 4).trans rfl; have hcz17_5 : w16.cell? ⟨gb968, 5, none⟩ = some (.int .i64 a0_5) := (xaA BK968.out 5).trans rfl; have hcz17_6 : w16.cell? ⟨gb968, 6, none⟩ = some (.int .i64 a0_6) := (xaA BK968.out 6).trans rfl; have hcz17_7 : w16.cell? ⟨gb968, 7, none⟩ = some (.int .i64 a0_7) := (xaA BK968.out 7).trans rfl; have hcz17_8 : w16.cell? ⟨gb968, 8, none⟩ = some (.int .i64 a0_8) := (xaA BK968.out 8).trans rfl; have hcz17_9 : w16.cell? ⟨gb968, 9, none⟩ = some (.int .i64 a0_9) := (xaA BK968.out 9).trans rfl; have hcz17_10 : w16.cell? ⟨gb968, 10, none⟩ = some (.int .i64 a0_10) := (xaA BK968.out 10).trans rfl; have hcz17_11 : w16.cell? ⟨gb968, 11, none⟩ = some (.int .i64 a0_11) := (xaA BK968.out 11).trans rfl; have hcz17_12 : w16.cell? ⟨gb968, 12, none⟩ = some (.int .i64 a0_12) := (xaA BK968.out 12).trans rfl; have hcz17_13 : w16.cell? ⟨gb968, 13, none⟩ = some (.int .i64 a0_13) := (xaA BK968.out 13).trans rfl; have hcz17_14 : w16.cell? ⟨gb968, 14, none⟩ = some (.slice A0_14 l0_14.length c0_14) := (xaA BK968.out 14).trans rfl; have hfz17_0 := xaB BK968.out 0; have hfz17_1 := xaB BK968.out 1; have hfz17_2 := xaB BK968.out 2; have hfz17_3 := xaB BK968.out 3; have hfz17_4 := xaB BK968.out 4; have hfz17_5 := xaB BK968.out 5; have hfz17_6 := xaB BK968.out 6; have hfz17_7 := xaB BK968.out 7; have hfz17_8 := xaB BK968.out 8; have hfz17_9 := xaB BK968.out 9; have hfz17_10 := xaB BK968.out 10; have hfz17_11 := xaB BK968.out 11; have hfz17_12 := xaB BK968.out 12; have hfz17_13 := xaB BK968.out 13; have hfz17_14 := xaB BK968.out 14) | ((with_reducible refine gG 141 ?_); refine goA (some 14) Tryz.func141 #[.int .i64 a0_2] ?_; (with_reducible refine (xcK.calls a0_2 true _ A4.out).mono ?_); rintro e w' ⟨rfl, ⟨nd, rfl⟩⟩; refine ⟨_, rfl, ?_⟩) | ((with_reducible refine gG 97 ?_); refine goA (some 19) Tryz.func97 #[.float .f64 a0_3] ?_; (with_reducible refine (xbU.calls a0_3 false _ A6.out).mono ?_); rintro e w' ⟨rfl, ⟨nd, rfl⟩⟩; refine ⟨_, rfl, ?_⟩))
    go_ret2
    exact ⟨_, eW, by first | exact Kd.R_nil _ _ _ _ _ | exact Kd.N_nil _ _ _ _ _ | exact Kd.V_nil _ _ _ _ _ | exact Kd.Q_nil _ _ _ _ _ | exact Kd.S_nil _ _ _ _ _, bB⟩
  ·
   replace c5 := Bool.eq_false_iff.mpr c5;subst c5
   have H1 : (some (([] : List (S145)), 140)) = some (r1, r2) := by rw [if_neg (show ¬ (false = true) by decide)] at H; exact H
   clear H;have H := H1;clear H1
   simp only [Option.some.injEq, Prod.mk.injEq] at H
   obtain ⟨rfl, rfl⟩ := H
   go_enter Tryz.func118, Tryz.ntmps118
   go_wp2_with (first | ((with_reducible refine xaU (N := 2) rfl ?_); refine xaT ?hg (N := 2) ?hd (cs := #[.int .i64 a0_0, .int .i64 a0_1, .int .i64 a0_2, .float .f64 a0_3, .float .f64 a0_4, .int .i64 a0_5, .int .i64 a0_6, .int .i64 a0_7, .int .i64 a0_8, .int .i64 a0_9, .int .i64 a0_10, .int .i64 a0_11, .int .i64 a0_12, .int .i64 a0_13, .slice A0_14 l0_14.length c0_14]) (t := 158) ?hr ?_; (case hd => rfl); (case hg => rfl); (case hr => first | (go_simp; done) | (go_simp; rfl)); intro gb968 hg w18 hbox hb; have BK968 := Aside0.mk (hbox); have GW968 := bG hg; have GE968 := bG hg; replace HB := bS hb; clear hb hbox hg; have hcz19_0 : w18.cell? ⟨gb968, 0, none⟩ = some (.int .i64 a0_0) := (xaA BK968.out 0).trans rfl; have hcz19_1 : w18.cell? ⟨gb968, 1, none⟩ = some (.int .i64 a0_1) := (xaA BK968.out 1).trans rfl; have hcz19_2 : w18.cell? ⟨gb968, 2, none⟩ = some (.int .i64 a0_2) := (xaA BK968.out 2).trans rfl; have hcz19_3 : w18.cell? ⟨gb968, 3, none⟩ = some (.float .f64 a0_3) := (xaA BK968.out 3).trans rfl; have hcz19_4 : w18.cell? ⟨gb968, 4, none⟩ = some (.float .f64 a0_4) := (xaA BK968.out 4).trans rfl; have hcz19_5 : w18.cell? ⟨gb968, 5, none⟩ = some (.int .i64 a0_5) := (xaA BK968.out 5).trans rfl; have hcz19_6 : w18.cell? ⟨gb968, 6, none⟩ = some (.int .i64 a0_6) := (xaA BK968.out 6).trans rfl; have hcz19_7 : w18.cell? ⟨gb968, 7, none⟩ = some (.int .i64 a0_7) := (xaA BK968.out 7).trans rfl; have hcz19_8 : w18.cell? ⟨gb968, 8, none⟩ = some (.int .i64 a0_8) := (xaA BK968.out 8).trans rfl; have hcz19_9 : w18.cell? ⟨gb968, 9, none⟩ = some (.int .i64 a0_9) := (xaA BK968.out 9).trans rfl; have hcz19_10 : w18.cell? ⟨gb968, 10, none⟩ = some (.int .i64 a0_10) := (xaA BK968.out 10).trans rfl; have hcz19_11 : w18.cell? ⟨gb968, 11, none⟩ = some (.int .i64 a0_11) := (xaA BK968.out 11).trans rfl; have hcz19_12 : w18.cell? ⟨gb968, 12, none⟩ = some (.int .i64 a0_12) := (xaA BK968.out 12).trans rfl; have hcz19_13 : w18.cell? ⟨gb968, 13, none⟩ = some (.int .i64 a0_13) := (xaA BK968.out 13).trans rfl; have hcz19_14 : w18.cell? ⟨gb968, 14, none⟩ = some (.slice A0_14 l0_14.length c0_14) := (xaA BK968.out 14).trans rfl; have hfz19_0 := xaB BK968.out 0; have hfz19_1 := xaB BK968.out 1; have hfz19_2 := xaB BK968.out 2; have hfz19_3 := xaB BK968.out 3; have hfz19_4 := xaB BK968.out 4; have hfz19_5 := xaB BK968.out 5; have hfz19_6 := xaB BK968.out 6; have hfz19_7 := xaB BK968.out 7; have hfz19_8 := xaB BK968.out 8; have hfz19_9 := xaB BK968.out 9; have hfz19_10 := xaB BK968.out 10; have hfz19_11 := xaB BK968.out 11; have hfz19_12 := xaB BK968.out 12; have hfz19_13 := xaB BK968.out 13; have hfz19_14 := xaB BK968.out 14) | ((with_reducible refine gG 141 ?_); refine goA (some 14) Tryz.func141 #[.int .i64 a0_2] ?_; (with_reducible refine (xcK.calls a0_2 false _ A4.out).mono ?_); rintro e w' ⟨rfl, ⟨nd, rfl⟩⟩; refine ⟨_, rfl, ?_⟩))
   go_ret2
   exact ⟨_, eW, by first | exact Kd.R_nil _ _ _ _ _ | exact Kd.N_nil _ _ _ _ _ | exact Kd.V_nil _ _ _ _ _ | exact Kd.Q_nil _ _ _ _ _ | exact Kd.S_nil _ _ _ _ _, bB⟩
 ·
  rw [if_neg c3] at H
  have c3b0 : (a0_0 == a1) = false := beq_eq_false_iff_ne.mpr c3
  have c3b1 : (a0_0 != a1) = true := bne_iff_ne.mpr c3
  simp only [Option.some.injEq, Prod.mk.injEq] at H
  obtain ⟨rfl, rfl⟩ := H
  go_enter Tryz.func118, Tryz.ntmps118
  go_wp2_with (first | ((with_reducible refine xaU (N := 2) rfl ?_); refine xaT ?hg (N := 2) ?hd (cs := #[.int .i64 a0_0, .int .i64 a0_1, .int .i64 a0_2, .float .f64 a0_3, .float .f64 a0_4, .int .i64 a0_5, .int .i64 a0_6, .int .i64 a0_7, .int .i64 a0_8, .int .i64 a0_9, .int .i64 a0_10, .int .i64 a0_11, .int .i64 a0_12, .int .i64 a0_13, .slice A0_14 l0_14.length c0_14]) (t := 158) ?hr ?_; (case hd => rfl); (case hg => rfl); (case hr => first | (go_simp; done) | (go_simp; rfl)); intro gb968 hg w20 hbox hb; have BK968 := Aside0.mk (hbox); have GW968 := bG hg; have GE968 := bG hg; replace HB := bS hb; clear hb hbox hg; have hcz21_0 : w20.cell? ⟨gb968, 0, none⟩ = some (.int .i64 a0_0) := (xaA BK968.out 0).trans rfl; have hcz21_1 : w20.cell? ⟨gb968, 1, none⟩ = some (.int .i64 a0_1) := (xaA BK968.out 1).trans rfl; have hcz21_2 : w20.cell? ⟨gb968, 2, none⟩ = some (.int .i64 a0_2) := (xaA BK968.out 2).trans rfl; have hcz21_3 : w20.cell? ⟨gb968, 3, none⟩ = some (.float .f64 a0_3) := (xaA BK968.out 3).trans rfl; have hcz21_4 : w20.cell? ⟨gb968, 4, none⟩ = some (.float .f64 a0_4) := (xaA BK968.out 4).trans rfl; have hcz21_5 : w20.cell? ⟨gb968, 5, none⟩ = some (.int .i64 a0_5) := (xaA BK968.out 5).trans rfl; have hcz21_6 : w20.cell? ⟨gb968, 6, none⟩ = some (.int .i64 a0_6) := (xaA BK968.out 6).trans rfl; have hcz21_7 : w20.cell? ⟨gb968, 7, none⟩ = some (.int .i64 a0_7) := (xaA BK968.out 7).trans rfl; have hcz21_8 : w20.cell? ⟨gb968, 8, none⟩ = some (.int .i64 a0_8) := (xaA BK968.out 8).trans rfl; have hcz21_9 : w20.cell? ⟨gb968, 9, none⟩ = some (.int .i64 a0_9) := (xaA BK968.out 9).trans rfl; have hcz21_10 : w20.cell? ⟨gb968, 10, none⟩ = some (.int .i64 a0_10) := (xaA BK968.out 10).trans rfl; have hcz21_11 : w20.cell? ⟨gb968, 11, none⟩ = some (.int .i64 a0_11) := (xaA BK968.out 11).trans rfl; have hcz21_12 : w20.cell? ⟨gb968, 12, none⟩ = some (.int .i64 a0_12) := (xaA BK968.out 12).trans rfl; have hcz21_13 : w20.cell? ⟨gb968, 13, none⟩ = some (.int .i64 a0_13) := (xaA BK968.out 13).trans rfl; have hcz21_14 : w20.cell? ⟨gb968, 14, none⟩ = some (.slice A0_14 l0_14.length c0_14) := (xaA BK968.out 14).trans rfl; have hfz21_0 := xaB BK968.out 0; have hfz21_1 := xaB BK968.out 1; have hfz21_2 := xaB BK968.out 2; have hfz21_3 := xaB BK968.out 3; have hfz21_4 := xaB BK968.out 4; have hfz21_5 := xaB BK968.out 5; have hfz21_6 := xaB BK968.out 6; have hfz21_7 := xaB BK968.out 7; have hfz21_8 := xaB BK968.out 8; have hfz21_9 := xaB BK968.out 9; have hfz21_10 := xaB BK968.out 10; have hfz21_11 := xaB BK968.out 11; have hfz21_12 := xaB BK968.out 12; have hfz21_13 := xaB BK968.out 13; have hfz21_14 := xaB BK968.out 14))
  go_ret2
  exact ⟨_, eW, by first | exact Kd.R_nil _ _ _ _ _ | exact Kd.N_nil _ _ _ _ _ | exact Kd.V_nil _ _ _ _ _ | exact Kd.Q_nil _ _ _ _ _ | exact Kd.S_nil _ _ _ _ _, bB⟩
def xdT.f (a0 : Int) : Option (Bool) := if a0 ≥ 0 then (some (decide (a0 ≤ 109572))) else (some false)
theorem xdT.calls (a0 : Int) (r : Bool) (w : World) (h : xdT.f a0 = some r) :
  Calls Tryz.prog 179 #[.int .i64 a0] w fun e w' => e = .returned (.bool r) ∧ Drawn0 w w' := by
 have H : (if a0 ≥ 0 then (some (decide (a0 ≤ 109572))) else (some false)) = some r := h
 clear h
 by_cases c2 : a0 ≥ 0
 ·
  rw [if_pos c2] at H
  have c2b0 : decide (0 ≤ a0) = true := decide_eq_true c2
  clear c2
  obtain rfl := Option.some.inj H
  go_enter Tryz.func179, Tryz.ntmps179
  go_wp2
  go_ret
  exact ⟨eS, eD⟩
 ·
  rw [if_neg c2] at H
  have c2b0 : decide (0 ≤ a0) = false := decide_eq_false c2
  clear c2
  obtain rfl := Option.some.inj H
  go_enter Tryz.func179, Tryz.ntmps179
  go_wp2
  go_ret
  exact ⟨eS, eD⟩
def xbN.l0 : Nat → Int → Int → Int → Int → Option (Int)
  | 0, _, _, _, _ => none
  | k + 1, x0, x3, x7, x8 => if x8 < x3 then ((xcU.f x8).bind fun t980 => (if t980 = true then (xbN.l0 k x0 x3 (wrap64 (x7 + 366)) (wrap64 (x8 + 1))) else (xbN.l0 k x0 x3 x7 (wrap64 (x8 + 1))))) else ((xcU.f x3).bind fun t981 => (if t981 = true then ((xdS.f k x3 1 1).bind fun bt982 => (some (wrap64 (x7 + (wrap64 (x0 - bt982.1)))))) else (some x7)))
def xbN.f (k : Nat) (a0 : Int) : Option (Int) := (xbR.f k a0).bind fun bt976 => (xbN.l0 k a0 bt976.1 0 1900)
theorem xbN.calls (k : Nat) (a0 r : Int) (w : World) (h : xbN.f k a0 = some r) :
  Calls Tryz.prog 180 #[.int .i64 a0] w fun e w' => e = .returned (.int .i64 r) ∧ Drawn0 w w' := by
 have H : ((xbR.f k a0).bind fun bt976 => (xbN.l0 k a0 bt976.1 0 1900)) = some r := h
 clear h;replace H := Option.bind_eq_some_iff.mp H
 obtain ⟨⟨t976, t977, t978, t979⟩, A20, H⟩ := H
 replace H : (xbN.l0 k a0 t976 0 1900) = some r := H
 have A2 := Aside0.mk A20;clear A20;have H' := Aside0.mk H;clear H
 go_enter Tryz.func180, Tryz.ntmps180
 go_wp2_with (first | ((with_reducible refine gG 186 ?_); refine goA (some 13) Tryz.func186 #[.int .i64 a0] ?_; (with_reducible refine (xbR.calls k a0 t976 t977 t978 t979 _ A2.out).mono ?_); rintro e w' ⟨rfl, ⟨nd, rfl⟩⟩; refine ⟨_, rfl, ?_⟩))
 go_loopg [7, 8] k (fun kq v7 v8 w' => ∃ (x7_1 : Int) (x8_1 : Int), v7 = .int .i64 x7_1 ∧ v8 = .int .i64 x8_1 ∧ Aside0 (xbN.l0 kq a0 t976 x7_1 x8_1 = some r) ∧ Aside0 (kq ≤ k) ∧ Drawn0 w w')
 case atStart => exact ⟨(0), (1900), eS, eS, H', ⟨Nat.le_refl _⟩, eD⟩
 case round =>
  clear H'
  obtain ⟨x7_1, x8_1, rfl, rfl, HA, HK1, ⟨m1, rfl⟩⟩ := hrel
  cases gk with
  | zero => exact absurd HA.out (by simp [xbN.l0])
  | succ k1 =>
   have H := HA.out;clear HA
   simp only [xbN.l0] at H
   by_cases c3 : x8_1 < t976
   ·
    rw [if_pos c3] at H
    have c3b0 : decide (x8_1 < t976) = true := decide_eq_true c3
    clear c3;replace H := Option.bind_eq_some_iff.mp H
    obtain ⟨t980, A40, H⟩ := H
    replace H : (if t980 = true then (xbN.l0 k1 a0 t976 (wrap64 (x7_1 + 366)) (wrap64 (x8_1 + 1))) else (xbN.l0 k1 a0 t976 x7_1 (wrap64 (x8_1 + 1)))) = some r := H
    have A4 := Aside0.mk A40;clear A40
    by_cases c5 : t980 = true
    ·
     subst c5
     have H1 : (xbN.l0 k1 a0 t976 (wrap64 (x7_1 + 366)) (wrap64 (x8_1 + 1))) = some r := by rw [if_pos rfl] at H; exact H
     clear H;have H := H1;clear H1;have H' := Aside0.mk H;clear H
     go_wp2_with (first | ((with_reducible refine gG 121 ?_); refine goA (some 24) Tryz.func121 #[.int .i64 x8_1] ?_; (with_reducible refine (xcU.calls x8_1 true _ A4.out).mono ?_); rintro e w' ⟨rfl, ⟨nd, rfl⟩⟩; refine ⟨_, rfl, ?_⟩))
     go_roundg k1
     case measure => have := HK1.out; omega
     case rel => exact ⟨(wrap64 (x7_1 + 366)), (wrap64 (x8_1 + 1)), eS, eS, H', ⟨by have := HK1.out; omega⟩, eD⟩
    ·
     replace c5 := Bool.eq_false_iff.mpr c5;subst c5
     have H1 : (xbN.l0 k1 a0 t976 x7_1 (wrap64 (x8_1 + 1))) = some r := by rw [if_neg (show ¬ (false = true) by decide)] at H; exact H
     clear H;have H := H1;clear H1;have H' := Aside0.mk H;clear H
     go_wp2_with (first | ((with_reducible refine gG 121 ?_); refine goA (some 24) Tryz.func121 #[.int .i64 x8_1] ?_; (with_reducible refine (xcU.calls x8_1 false _ A4.out).mono ?_); rintro e w' ⟨rfl, ⟨nd, rfl⟩⟩; refine ⟨_, rfl, ?_⟩))
     go_roundg k1
     case measure => have := HK1.out; omega
     case rel => exact ⟨(x7_1), (wrap64 (x8_1 + 1)), eS, eS, H', ⟨by have := HK1.out; omega⟩, eD⟩
   ·
    rw [if_neg c3] at H
    have c3b0 : decide (x8_1 < t976) = false := decide_eq_false c3
    clear c3;replace H := Option.bind_eq_some_iff.mp H
    obtain ⟨t981, A60, H⟩ := H
    replace H : (if t981 = true then ((xdS.f k1 t976 1 1).bind fun bt982 => (some (wrap64 (x7_1 + (wrap64 (a0 - bt982.1)))))) else (some x7_1)) = some r := H
    have A6 := Aside0.mk A60;clear A60
    by_cases c7 : t981 = true
    ·
     subst c7
     have H1 : ((xdS.f k1 t976 1 1).bind fun bt982 => (some (wrap64 (x7_1 + (wrap64 (a0 - bt982.1)))))) = some r := by rw [if_pos rfl] at H; exact H
     clear H;have H := H1;clear H1;replace H := Option.bind_eq_some_iff.mp H
     obtain ⟨⟨t982, t983⟩, A80, H⟩ := H
     replace H : (some (wrap64 (x7_1 + (wrap64 (a0 - t982))))) = some r := H
     have A8 := Aside0.mk A80;clear A80
     obtain rfl := Option.some.inj H
     go_wp2_with (first | ((with_reducible refine gG 121 ?_); refine goA (some 28) Tryz.func121 #[.int .i64 t976] ?_; (with_reducible refine (xcU.calls t976 true _ A6.out).mono ?_); rintro e w' ⟨rfl, ⟨nd, rfl⟩⟩; refine ⟨_, rfl, ?_⟩) | ((with_reducible refine gG 188 ?_); refine goA (some 31) Tryz.func188 #[.int .i64 t976, .int .i64 1, .int .i64 1] ?_; (with_reducible refine (xdS.calls k1 t976 1 1 t982 t983 _ A8.out).mono ?_); rintro e w' ⟨rfl, ⟨nd, rfl⟩⟩; refine ⟨_, rfl, ?_⟩))
     go_ret
     exact ⟨eS, eD⟩
    ·
     replace c7 := Bool.eq_false_iff.mpr c7;subst c7
     have H1 : (some x7_1) = some r := by rw [if_neg (show ¬ (false = true) by decide)] at H; exact H
     clear H;have H := H1;clear H1
     obtain rfl := Option.some.inj H
     go_wp2_with (first | ((with_reducible refine gG 121 ?_); refine goA (some 28) Tryz.func121 #[.int .i64 t976] ?_; (with_reducible refine (xcU.calls t976 false _ A6.out).mono ?_); rintro e w' ⟨rfl, ⟨nd, rfl⟩⟩; refine ⟨_, rfl, ?_⟩))
     go_ret
     exact ⟨eS, eD⟩
def xcQ.f (k : Nat) (a0 a1 : Int) (a2 : Bool) : Option (Int) := (xbR.f k a0).bind fun bt984 => ((xbR.f k a1).bind fun bt988 => (if a2 = true then (some (wrap64 ((wrap64 ((wrap64 ((wrap64 (360 * (wrap64 (bt988.1 - bt984.1)))) + (wrap64 (30 * (wrap64 (bt988.2.1 - bt984.2.1)))))) + (mn bt988.2.2.1 30))) - (mn bt984.2.2.1 30)))) else (if (mn bt984.2.2.1 30) = 30 then (some (wrap64 ((wrap64 ((wrap64 ((wrap64 (360 * (wrap64 (bt988.1 - bt984.1)))) + (wrap64 (30 * (wrap64 (bt988.2.1 - bt984.2.1)))))) + (mn bt988.2.2.1 30))) - (mn bt984.2.2.1 30)))) else (some (wrap64 ((wrap64 ((wrap64 ((wrap64 (360 * (wrap64 (bt988.1 - bt984.1)))) + (wrap64 (30 * (wrap64 (bt988.2.1 - bt984.2.1)))))) + bt988.2.2.1)) - (mn bt984.2.2.1 30)))))))
theorem xcQ.calls (k : Nat) (a0 a1 : Int) (a2 : Bool) (r : Int) (w : World) (h : xcQ.f k a0 a1 a2 = some r) :
  Calls Tryz.prog 181 #[.int .i64 a0, .int .i64 a1, .bool a2] w fun e w' => e = .returned (.int .i64 r) ∧ Below w.heap.size w w' := by
 have HB := Aside0.mk (Below.refl w.heap.size w)
 have H : ((xbR.f k a0).bind fun bt984 => ((xbR.f k a1).bind fun bt988 => (if a2 = true then (some (wrap64 ((wrap64 ((wrap64 ((wrap64 (360 * (wrap64 (bt988.1 - bt984.1)))) + (wrap64 (30 * (wrap64 (bt988.2.1 - bt984.2.1)))))) + (mn bt988.2.2.1 30))) - (mn bt984.2.2.1 30)))) else (if (mn bt984.2.2.1 30) = 30 then (some (wrap64 ((wrap64 ((wrap64 ((wrap64 (360 * (wrap64 (bt988.1 - bt984.1)))) + (wrap64 (30 * (wrap64 (bt988.2.1 - bt984.2.1)))))) + (mn bt988.2.2.1 30))) - (mn bt984.2.2.1 30)))) else (some (wrap64 ((wrap64 ((wrap64 ((wrap64 (360 * (wrap64 (bt988.1 - bt984.1)))) + (wrap64 (30 * (wrap64 (bt988.2.1 - bt984.2.1)))))) + bt988.2.2.1)) - (mn bt984.2.2.1 30)))))))) = some r := h
 clear h;replace H := Option.bind_eq_some_iff.mp H
 obtain ⟨⟨t984, t985, t986, t987⟩, A40, H⟩ := H
 replace H : ((xbR.f k a1).bind fun bt988 => (if a2 = true then (some (wrap64 ((wrap64 ((wrap64 ((wrap64 (360 * (wrap64 (bt988.1 - t984)))) + (wrap64 (30 * (wrap64 (bt988.2.1 - t985)))))) + (mn bt988.2.2.1 30))) - (mn t986 30)))) else (if (mn t986 30) = 30 then (some (wrap64 ((wrap64 ((wrap64 ((wrap64 (360 * (wrap64 (bt988.1 - t984)))) + (wrap64 (30 * (wrap64 (bt988.2.1 - t985)))))) + (mn bt988.2.2.1 30))) - (mn t986 30)))) else (some (wrap64 ((wrap64 ((wrap64 ((wrap64 (360 * (wrap64 (bt988.1 - t984)))) + (wrap64 (30 * (wrap64 (bt988.2.1 - t985)))))) + bt988.2.2.1)) - (mn t986 30))))))) = some r := H
 have A4 := Aside0.mk A40;clear A40;replace H := Option.bind_eq_some_iff.mp H
 obtain ⟨⟨t988, t989, t990, t991⟩, A50, H⟩ := H
 replace H : (if a2 = true then (some (wrap64 ((wrap64 ((wrap64 ((wrap64 (360 * (wrap64 (t988 - t984)))) + (wrap64 (30 * (wrap64 (t989 - t985)))))) + (mn t990 30))) - (mn t986 30)))) else (if (mn t986 30) = 30 then (some (wrap64 ((wrap64 ((wrap64 ((wrap64 (360 * (wrap64 (t988 - t984)))) + (wrap64 (30 * (wrap64 (t989 - t985)))))) + (mn t990 30))) - (mn t986 30)))) else (some (wrap64 ((wrap64 ((wrap64 ((wrap64 (360 * (wrap64 (t988 - t984)))) + (wrap64 (30 * (wrap64 (t989 - t985)))))) + t990)) - (mn t986 30)))))) = some r := H
 have A5 := Aside0.mk A50;clear A50
 obtain ⟨ji6, hji6⟩ : ∃ j_ : Int, (mn t986 30) = j_ := ⟨_, rfl⟩
 replace H : (if a2 = true then (some (wrap64 ((wrap64 ((wrap64 ((wrap64 (360 * (wrap64 (t988 - t984)))) + (wrap64 (30 * (wrap64 (t989 - t985)))))) + (mn t990 30))) - (ji6)))) else (if (ji6) = 30 then (some (wrap64 ((wrap64 ((wrap64 ((wrap64 (360 * (wrap64 (t988 - t984)))) + (wrap64 (30 * (wrap64 (t989 - t985)))))) + (mn t990 30))) - (ji6)))) else (some (wrap64 ((wrap64 ((wrap64 ((wrap64 (360 * (wrap64 (t988 - t984)))) + (wrap64 (30 * (wrap64 (t989 - t985)))))) + t990)) - (ji6)))))) = some r := by first | (rw [hji6] at H; exact H) | (simp only [hji6] at H ⊢; exact H)
 (try rw [hji6] at A4)
 (try rw [hji6] at A5)
 (try (have hji6h : ji6 ≤ 30 := by (rw [← hji6]; unfold mn; (repeat' split) <;> omega)))
 (try (have hji6g : ji6 ≤ 64 := by omega))
 have hji6_ : (if 30 < t986 then 30 else t986) = ji6 := hji6
 by_cases c7 : a2 = true
 ·
  subst c7
  have H1 : (some (wrap64 ((wrap64 ((wrap64 ((wrap64 (360 * (wrap64 (t988 - t984)))) + (wrap64 (30 * (wrap64 (t989 - t985)))))) + (mn t990 30))) - (ji6)))) = some r := by rw [if_pos rfl] at H; exact H
  clear H;have H := H1;clear H1
  obtain ⟨ji8, hji8⟩ : ∃ j_ : Int, (mn t990 30) = j_ := ⟨_, rfl⟩
  replace H : (some (wrap64 ((wrap64 ((wrap64 ((wrap64 (360 * (wrap64 (t988 - t984)))) + (wrap64 (30 * (wrap64 (t989 - t985)))))) + (ji8))) - (ji6)))) = some r := by first | (rw [hji8] at H; exact H) | (simp only [hji8] at H ⊢; exact H)
  (try rw [hji8] at A4)
  (try rw [hji8] at A5)
  (try (have hji8h : ji8 ≤ 30 := by (rw [← hji8]; unfold mn; (repeat' split) <;> omega)))
  (try (have hji8g : ji8 ≤ 64 := by omega))
  have hji8_ : (if 30 < t990 then 30 else t990) = ji8 := hji8
  obtain rfl := Option.some.inj H
  go_enter Tryz.func181, Tryz.ntmps181
  go_wp2_with (first | ((with_reducible refine gG 186 ?_); refine goA (some 17) Tryz.func186 #[.int .i64 a0] ?_; (with_reducible refine (xbR.calls k a0 t984 t985 t986 t987 _ A4.out).mono ?_); rintro e w' ⟨rfl, ⟨nd, rfl⟩⟩; refine ⟨_, rfl, ?_⟩) | ((with_reducible refine gG 186 ?_); refine goA (some 24) Tryz.func186 #[.int .i64 a1] ?_; (with_reducible refine (xbR.calls k a1 t988 t989 t990 t991 _ A5.out).mono ?_); rintro e w' ⟨rfl, ⟨nd, rfl⟩⟩; refine ⟨_, rfl, ?_⟩))
  go_ret
  exact ⟨by first | rfl | (simp [xbD, xbC] <;> rfl) | (simp only [← hji6, ← hji8]; first | rfl | (simp [xbD, xbC] <;> rfl)) | (simp [*, xbD, xbC] <;> rfl), bB⟩
 ·
  replace c7 := Bool.eq_false_iff.mpr c7;subst c7
  have H1 : (if (ji6) = 30 then (some (wrap64 ((wrap64 ((wrap64 ((wrap64 (360 * (wrap64 (t988 - t984)))) + (wrap64 (30 * (wrap64 (t989 - t985)))))) + (mn t990 30))) - (ji6)))) else (some (wrap64 ((wrap64 ((wrap64 ((wrap64 (360 * (wrap64 (t988 - t984)))) + (wrap64 (30 * (wrap64 (t989 - t985)))))) + t990)) - (ji6))))) = some r := by rw [if_neg (show ¬ (false = true) by decide)] at H; exact H
  clear H;have H := H1;clear H1
  by_cases c9 : (ji6) = 30
  ·
   rw [if_pos c9] at H
   have c9b0 : ((ji6) == 30) = true := beq_iff_eq.mpr c9
   have c9b1 : ((ji6) != 30) = false := bne_eq_false_iff_eq.mpr c9
   clear c9
   obtain ⟨ji10, hji10⟩ : ∃ j_ : Int, (mn t990 30) = j_ := ⟨_, rfl⟩
   replace H : (some (wrap64 ((wrap64 ((wrap64 ((wrap64 (360 * (wrap64 (t988 - t984)))) + (wrap64 (30 * (wrap64 (t989 - t985)))))) + (ji10))) - (ji6)))) = some r := by first | (rw [hji10] at H; exact H) | (simp only [hji10] at H ⊢; exact H)
   (try rw [hji10] at A4)
   (try rw [hji10] at A5)
   (try (have hji10h : ji10 ≤ 30 := by (rw [← hji10]; unfold mn; (repeat' split) <;> omega)))
   (try (have hji10g : ji10 ≤ 64 := by omega))
   have hji10_ : (if 30 < t990 then 30 else t990) = ji10 := hji10
   obtain rfl := Option.some.inj H
   go_enter Tryz.func181, Tryz.ntmps181
   go_wp2_with (first | ((with_reducible refine gG 186 ?_); refine goA (some 17) Tryz.func186 #[.int .i64 a0] ?_; (with_reducible refine (xbR.calls k a0 t984 t985 t986 t987 _ A4.out).mono ?_); rintro e w' ⟨rfl, ⟨nd, rfl⟩⟩; refine ⟨_, rfl, ?_⟩) | ((with_reducible refine gG 186 ?_); refine goA (some 24) Tryz.func186 #[.int .i64 a1] ?_; (with_reducible refine (xbR.calls k a1 t988 t989 t990 t991 _ A5.out).mono ?_); rintro e w' ⟨rfl, ⟨nd, rfl⟩⟩; refine ⟨_, rfl, ?_⟩))
   go_ret
   exact ⟨by first | rfl | (simp [xbD, xbC] <;> rfl) | (simp only [← hji6, ← hji10]; first | rfl | (simp [xbD, xbC] <;> rfl)) | (simp [*, xbD, xbC] <;> rfl), bB⟩
  ·
   rw [if_neg c9] at H
   have c9b0 : ((ji6) == 30) = false := beq_eq_false_iff_ne.mpr c9
   have c9b1 : ((ji6) != 30) = true := bne_iff_ne.mpr c9
   obtain rfl := Option.some.inj H
   go_enter Tryz.func181, Tryz.ntmps181
   go_wp2_with (first | ((with_reducible refine gG 186 ?_); refine goA (some 17) Tryz.func186 #[.int .i64 a0] ?_; (with_reducible refine (xbR.calls k a0 t984 t985 t986 t987 _ A4.out).mono ?_); rintro e w' ⟨rfl, ⟨nd, rfl⟩⟩; refine ⟨_, rfl, ?_⟩) | ((with_reducible refine gG 186 ?_); refine goA (some 24) Tryz.func186 #[.int .i64 a1] ?_; (with_reducible refine (xbR.calls k a1 t988 t989 t990 t991 _ A5.out).mono ?_); rintro e w' ⟨rfl, ⟨nd, rfl⟩⟩; refine ⟨_, rfl, ?_⟩))
   go_ret
   exact ⟨by first | rfl | (have e_ : t986 = ji6 := (by by_cases h_ : 30 < t986 <;> simp only [h_, if_true, if_false] at hji6_ <;> omega); rw [e_]; rfl) | (simp [xbD, xbC] <;> rfl) | (simp only [← hji6]; first | rfl | (simp [xbD, xbC] <;> rfl)) | (simp [*, xbD, xbC] <;> rfl), bB⟩
def xeT.f (a0_0 : Int) (l0_1 : List S214) (a1 a2 : Int) : Option (Int × Int) := if a0_0 = 0 ∧ l0_1.length = 0 ∧ False then some (0, 0) else none
theorem xeT.calls (a0_0 : Int) (A0_1 : Option Addr) (c0_1 : Nat) (l0_1 : List (S214)) (a1 a2 r1 r2 : Int) (w : World) (hr0_1 : Kd.C k214 w A0_1 l0_1.length l0_1) (hc0_1 : l0_1.length ≤ c0_1) (h : xeT.f a0_0 l0_1 a1 a2 = some (r1, r2)) :
  Calls Tryz.prog 182 #[.agg #[.int .i64 a0_0, .slice A0_1 l0_1.length c0_1], .int .i64 a1, .int .i64 a2] w fun e w' => e = .returned (.tuple #[.int .i64 r1, .int .i64 r2]) ∧ Below w.heap.size w w' := by
 unfold xeT.f at h
 split at h
 ·
  rename_i hc
  exact hc.2.2.elim
 ·
  cases h
end Go.Proofs.YtkabcgmegljebaaGreatDoor.Q
