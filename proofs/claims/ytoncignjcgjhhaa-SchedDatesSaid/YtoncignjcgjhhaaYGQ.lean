/- Contracts and facts of functions of the program (calendar, dates and their documents), joined in one text by a program of this session. No condition but what each theorem states. -/
import Derived.Test.YtoncignjcgjhhaaYGP
import Derived.Test.YtoncignjcgjhhaaYGK
set_option linter.unusedVariables false
set_option linter.unusedSimpArgs false
namespace Go.Proofs.Ytoncignjcgjhhaa.S
open Go.RowKit Go.Proofs.YtoncignjcgjhhaaW.PrintWords Go.Proofs.YtoncignjcgjhhaaW.PrintLast Go.Proofs.YtoncignjcgjhhaaW.PrintMore
open Go.Proofs.Ytoncignjcgjhhaa.Q
open Go.Proofs.Ytoncignjcgjhhaa.L (w64 td tm tm0)
def rolled (ro x m : Int) : Int :=
 if ro = 0 then M.dayOf (M.mAt x m / 12) (M.mAt x m % 12 + 1) (M.monthsDay x m false)
 else if ro = 1 then M.dayOf (M.mAt x m / 12) (M.mAt x m % 12 + 1) (M.mlen (M.mAt x m / 12) (M.mAt x m % 12 + 1))
 else M.third (M.mAt x m / 12) (M.mAt x m % 12 + 1)
def asDay (n : Int) : Option Int := if 0 ≤ n ∧ n ≤ 109572 then some n else none
def Sp.mons (s : Sp) (k : Int) : Int := if s.u = 4 then 12 * (k * s.n) else k * s.n
def Sp.pt (s : Sp) (x k : Int) : Option Int :=
 if k < -200000 ∨ 200000 < k then none
 else if s.u = 2 then asDay (x + 7 * (k * s.n)) else if s.u = 1 then asDay (x + k * s.n)
 else if M.monthsOk x (s.mons k) then some (rolled s.ro x (s.mons k)) else none
def Tells (p : Int × Bool) : Option Int → Prop
  | some v => p = (v, true)
  | none => p.2 = false
def told (o : Option Int) : Int × Bool := match o with | some v => (v, true) | none => (0, false)
theorem mul_rng {k n c : Int} (h0 : 0 ≤ c) (h1 : -c ≤ k) (h2 : k ≤ c) (n1 : 1 ≤ n) (n2 : n ≤ 1200) : -(c * 1200) ≤ k * n ∧ k * n ≤ c * 1200 := by
 have a := Int.mul_le_mul_of_nonneg_right h2 (show 0 ≤ n by omega)
 have b := Int.mul_le_mul_of_nonneg_left n2 h0
 have d := Int.mul_le_mul_of_nonneg_right h1 (show 0 ≤ n by omega)
 rw [Int.neg_mul] at d
 omega
theorem mul_far {k n : Int} (n1 : 1 ≤ n) : (0 ≤ k → k ≤ k * n) ∧ (k ≤ 0 → k * n ≤ k) := by
 refine ⟨fun h => ?_, fun h => ?_⟩
 ·
  have := Int.mul_le_mul_of_nonneg_left n1 h; omega
 ·
  have := Int.mul_le_mul_of_nonpos_left h n1; omega
theorem monthsOk_date {x m : Int} (hx : 0 ≤ x ∧ x ≤ 109572) (h : M.monthsOk x m) : ∃ n, n = M.dayOf (M.mAt x m / 12) (M.mAt x m % 12 + 1) (M.monthsDay x m false) ∧ (0 ≤ n ∧ n ≤ 109572) ∧ M.civY n = M.mAt x m / 12 ∧ M.civM n = M.mAt x m % 12 + 1 := by
 have hd := M.monthsDate false hx h;have hr := M.day_rng hd;have hc := M.civ_unique hd rfl
 exact ⟨_, rfl, ⟨hr.1, hr.2.1⟩, hc.1, hc.2.1⟩
theorem mlenDate {y m : Int} (h : 1900 ≤ y ∧ y ≤ 2199 ∧ 1 ≤ m ∧ m ≤ 12) : M.isDate y m (M.mlen y m) := by
  have := M.mlen_rng y m; unfold M.isDate; omega
theorem point_j0 (s : Sp) (x m : Int) (hx : 0 ≤ x ∧ x ≤ 109572) (hro : 0 ≤ s.ro ∧ s.ro ≤ 2) : Ev (fun q => sched_point.j0 q x m s.a s.b s.n s.u s.st s.ro s.cv s.lag s.we s.l) (told (if M.monthsOk x m then some (rolled s.ro x m) else none)) := by
 refine Ev.step (fun q => by rw [sched_point.j0]) (Ev.bind (L.Months x m false) ?_)
 unfold M.months
 rw [if_pos hx]
 by_cases h : M.monthsOk x m
 ·
  rw [if_pos h, if_pos h]
  refine Ev.congr (fun q => if_pos rfl) ?_
  obtain ⟨n, hn, hr, hy, hm⟩ := monthsOk_date hx h
  have hrng := M.mAt_rng h
  show Ev (fun q => (date_Civil.f q (M.dayOf (M.mAt x m / 12) (M.mAt x m % 12 + 1) (M.monthsDay x m false))).bind _) _
  rw [← hn]
  have hc := L.Civil n
  rw [if_pos hr, hy, hm] at hc
  refine Ev.bind hc ?_
  unfold rolled
  by_cases r1 : s.ro = 1
  ·
   rw [if_neg (show ¬ s.ro = 0 by omega), if_pos r1]
   refine Ev.congr (fun q => by rw [if_pos r1, L.Length, if_pos hrng, Option.bind_some]) ?_
   have ho := L.Of (M.mAt x m / 12) (M.mAt x m % 12 + 1) (M.mlen (M.mAt x m / 12) (M.mAt x m % 12 + 1))
   rw [if_pos (mlenDate hrng)] at ho
   exact Ev.bind ho (Ev.now _)
  ·
   by_cases r2 : s.ro = 2
   ·
    rw [if_neg (show ¬ s.ro = 0 by omega), if_neg r1]
    refine Ev.congr (fun q => by rw [if_neg r1, if_pos r2]) ?_
    have ho := L.Third (M.mAt x m / 12) (M.mAt x m % 12 + 1)
    rw [if_pos hrng] at ho
    exact Ev.bind ho (Ev.now _)
   ·
    rw [if_pos (show s.ro = 0 by omega)]
    refine Ev.congr (fun q => by rw [if_neg r1, if_neg r2]) ?_
    rw [hn]
    exact Ev.now _
 ·
  rw [if_neg h, if_neg h]
  exact Ev.congr (fun q => if_neg (by decide)) (Ev.now _)
theorem tells_day (n : Int) : Tells (n, decide (0 ≤ n ∧ n ≤ 109572)) (asDay n) := by
 unfold asDay
 by_cases h : 0 ≤ n ∧ n ≤ 109572
 ·
  rw [if_pos h, decide_eq_true h]; rfl
 ·
  rw [if_neg h, decide_eq_false h]; rfl
theorem tells_told (o : Option Int) : Tells (told o) o := by cases o <;> rfl
theorem sPoint (s : Sp) (x k : Int) (hx : 0 ≤ x ∧ x ≤ 109572) (hf : s.fit) : ∃ p, Ev (fun q => sched_point.f q s.a s.b s.n s.u s.st s.ro s.cv s.lag s.we s.l x k) p ∧ Tells p (s.pt x k) := by
 obtain ⟨_, hn, hu, _, hro, _⟩ := hf
 have hkk : ∃ kk : Int, mn (mx k (-1048576)) 1048576 = kk ∧ -1048576 ≤ kk ∧ kk ≤ 1048576 ∧ (¬ (k < -200000 ∨ 200000 < k) → kk = k) ∧ (k < -200000 → kk < -200000) ∧ (200000 < k → 200000 < kk) := by
  refine ⟨_, rfl, ?_, ?_, ?_, ?_, ?_⟩ <;> (unfold mn mx; omega)
 obtain ⟨kk, ekk, k1, k2, k3, k4, k5⟩ := hkk
 have hm := mul_rng (by omega) k1 k2 hn.1 hn.2
 have hfar := mul_far (k := kk) hn.1
 have e1 : wrap64 (kk * s.n) = kk * s.n := w64 (by omega) (by omega)
 have e7 : wrap64 (kk * s.n * 7) = kk * s.n * 7 := w64 (by omega) (by omega)
 have e12 : wrap64 (kk * s.n * 12) = kk * s.n * 12 := w64 (by omega) (by omega)
 have ex7 : wrap64 (x + kk * s.n * 7) = x + kk * s.n * 7 := w64 (by omega) (by omega)
 have ex1 : wrap64 (x + kk * s.n) = x + kk * s.n := w64 (by omega) (by omega)
 by_cases u2 : s.u = 2
 ·
  refine ⟨(x + kk * s.n * 7, decide (0 ≤ x + kk * s.n * 7 ∧ x + kk * s.n * 7 ≤ 109572)), Ev.congr (fun q => ?_) (Ev.now _), ?_⟩
  ·
   unfold sched_point.f; rw [if_pos u2, ekk, e1, e7, ex7, sis, Option.bind_some]
  ·
   unfold Sp.pt
   by_cases hk : k < -200000 ∨ 200000 < k
   ·
    rw [if_pos hk]
    show decide _ = false
    refine decide_eq_false (fun h => ?_)
    rcases hk with hk | hk
    ·
     have := k4 hk; have := hfar.2 (by omega); omega
    ·
     have := k5 hk; have := hfar.1 (by omega); omega
   ·
    rw [if_neg hk, if_pos u2, k3 hk, Int.mul_comm 7]
    exact tells_day _
 ·
  by_cases u1 : s.u = 1
  ·
   refine ⟨(x + kk * s.n, decide (0 ≤ x + kk * s.n ∧ x + kk * s.n ≤ 109572)), Ev.congr (fun q => ?_) (Ev.now _), ?_⟩
   ·
    unfold sched_point.f; rw [if_neg u2, if_pos u1, ekk, e1, ex1, sis, Option.bind_some]
   ·
    unfold Sp.pt
    by_cases hk : k < -200000 ∨ 200000 < k
    ·
     rw [if_pos hk]
     show decide _ = false
     refine decide_eq_false (fun h => ?_)
     rcases hk with hk | hk
     ·
      have := k4 hk; have := hfar.2 (by omega); omega
     ·
      have := k5 hk; have := hfar.1 (by omega); omega
    ·
     rw [if_neg hk, if_neg u2, if_pos u1, k3 hk]
     exact tells_day _
  ·
   have hpt : ∀ m, (m = if s.u = 4 then 12 * (kk * s.n) else kk * s.n) → Tells (told (if M.monthsOk x m then some (rolled s.ro x m) else none)) (s.pt x k) := by
    intro m em
    unfold Sp.pt
    by_cases hk : k < -200000 ∨ 200000 < k
    ·
     rw [if_pos hk, if_neg]
     ·
      rfl
     ·
      intro h
      have h1 := h.1; have h2 := h.2.1
      have hb : kk * s.n < -4000 ∨ 4000 < kk * s.n := by
       rcases hk with hk | hk
       ·
        have := k4 hk; have := hfar.2 (by omega); omega
       ·
        have := k5 hk; have := hfar.1 (by omega); omega
      by_cases u4 : s.u = 4
      ·
       rw [if_pos u4] at em; omega
      ·
       rw [if_neg u4] at em; omega
    ·
     rw [if_neg hk, if_neg u2, if_neg u1]
     have : m = s.mons k := by unfold Sp.mons; rw [em, k3 hk]
     rw [this]
     exact tells_told _
   by_cases u4 : s.u = 4
   ·
    refine ⟨_, Ev.congr (fun q => ?_) (point_j0 s x (kk * s.n * 12) hx hro), hpt _ (by rw [if_pos u4, Int.mul_comm 12])⟩
    unfold sched_point.f; rw [if_neg u2, if_neg u1, if_pos u4, ekk, e1, e12]
   ·
    refine ⟨_, Ev.congr (fun q => ?_) (point_j0 s x (kk * s.n) hx hro), hpt _ (by rw [if_neg u4])⟩
    unfold sched_point.f; rw [if_neg u2, if_neg u1, if_neg u4, ekk, e1]
theorem rpoint_j1 (s : Sp) (x m : Int) (hx : 0 ≤ x ∧ x ≤ 109572) (hro : 0 ≤ s.ro ∧ s.ro ≤ 2) : Ev (fun q => tenorref8_point.j1 q x m s.a s.b s.n s.u s.st s.ro s.cv s.lag s.we s.l) (told (if M.monthsOk x m then some (rolled s.ro x m) else none)) := by
 have hc := R.Civil x
 rw [if_pos hx] at hc
 refine Ev.step (fun q => by rw [tenorref8_point.j1]) (Ev.bind hc (Ev.bind (R.Month5 x m hx) ?_))
 unfold R.mon5
 by_cases h : M.monthsOk x m
 ·
  rw [if_pos h, if_pos h]
  have hrng := M.mAt_rng h
  refine Ev.congr (fun q => if_pos rfl) ?_
  unfold rolled
  by_cases r0 : s.ro = 0
  ·
   rw [if_pos r0]
   have hm := R.Months5 x m hx
   unfold M.months at hm
   rw [if_pos hx, if_pos h] at hm
   exact Ev.congr (fun q => if_pos r0) (Ev.bind hm (Ev.now _))
  ·
   rw [if_neg r0]
   refine Ev.congr (fun q => if_neg r0) ?_
   by_cases r1 : s.ro = 1
   ·
    rw [if_pos r1]
    have hl := R.Length (M.mAt x m / 12) (M.mAt x m % 12 + 1)
    rw [if_pos hrng] at hl
    have ho := R.Of (M.mAt x m / 12) (M.mAt x m % 12 + 1) (M.mlen (M.mAt x m / 12) (M.mAt x m % 12 + 1))
    rw [if_pos (mlenDate hrng)] at ho
    exact Ev.congr (fun q => if_pos r1) (Ev.bind hl (Ev.bind ho (Ev.now _)))
   ·
    rw [if_neg r1]
    exact Ev.congr (fun q => if_neg r1) (Ev.bind (R.Third5 _ _ hrng) (Ev.now _))
 ·
  rw [if_neg h, if_neg h]
  exact Ev.congr (fun q => if_neg (by decide)) (Ev.now _)
theorem told_day (n : Int) : Ev (fun _ : Nat => if decide (0 ≤ n ∧ n ≤ 109572) = true then some (n, true) else some (0, false)) (told (asDay n)) := by
 unfold asDay
 refine Ev.congr (fun q => ?_) (Ev.now _)
 by_cases h : 0 ≤ n ∧ n ≤ 109572
 ·
  rw [if_pos h, decide_eq_true h, if_pos rfl]; rfl
 ·
  rw [if_neg h, decide_eq_false h, if_neg (by decide)]; rfl
theorem rPoint (s : Sp) (x k : Int) (hf : s.fit) : Ev (fun q => tenorref8_point.f q s.a s.b s.n s.u s.st s.ro s.cv s.lag s.we s.l x k) (told (if 0 ≤ x ∧ x ≤ 109572 then s.pt x k else none)) := by
 obtain ⟨_, hn, hu, _, hro, _⟩ := hf
 have ht : Ev (fun q => tenorref8_point.j0 q x k true s.a s.b s.n s.u s.st s.ro s.cv s.lag s.we s.l) (told none) :=
  Ev.step (f := fun _ => some (told none)) (fun q => by rw [tenorref8_point.j0, if_pos rfl]; rfl) (Ev.now _)
 refine Ev.congr (fun q => by unfold tenorref8_point.f; rw [rin, Option.bind_some]) (ev_dec (fun hx => ?_) (fun hx => by rw [if_neg hx]; exact ht))
 rw [if_pos hx]
 unfold Sp.pt
 refine ev_ite (fun c1 => by rw [if_pos (.inl c1)]; exact ht) (fun c1 => ?_)
 by_cases c2 : k > 200000
 ·
  rw [if_pos (.inr c2)]
  exact Ev.congr (fun q => by rw [decide_eq_true c2]) ht
 ·
  rw [if_neg (show ¬ (k < -200000 ∨ 200000 < k) by omega)]
  have hm := mul_rng (c := 200000) (by omega) (show -200000 ≤ k by omega) (by omega) hn.1 hn.2
  have e1 : wrap64 (k * s.n) = k * s.n := w64 (by omega) (by omega)
  have e12 : wrap64 (12 * (k * s.n)) = 12 * (k * s.n) := w64 (by omega) (by omega)
  have e7a : wrap64 (7 * k) = 7 * k := w64 (by omega) (by omega)
  have e7 : wrap64 (7 * k * s.n) = 7 * (k * s.n) := by rw [Int.mul_assoc, w64 (by omega) (by omega)]
  have ex7 : wrap64 (x + 7 * (k * s.n)) = x + 7 * (k * s.n) := w64 (by omega) (by omega)
  have ex1 : wrap64 (x + k * s.n) = x + k * s.n := w64 (by omega) (by omega)
  refine Ev.congr (fun q => by rw [decide_eq_false c2]) (Ev.step (fun q => by rw [tenorref8_point.j0, if_neg (by decide), e1, e12, e7a, e7, ex7, ex1, rin, rin, Option.bind_some, Option.bind_some]) ?_)
  refine ev_ite (fun u2 => ev_ite (fun u3 => by rw [if_pos u3]; exact told_day _) (fun u3 => by rw [if_neg u3, if_pos (show s.u = 1 by omega)]; exact told_day _)) (fun u2 => ?_)
  rw [if_neg (show ¬ s.u = 2 by omega), if_neg (show ¬ s.u = 1 by omega)]
  unfold Sp.mons
  refine ev_ite (fun u4 => by rw [if_pos u4]; exact rpoint_j1 s x _ hx hro) (fun u4 => by rw [if_neg u4]; exact rpoint_j1 s x _ hx hro)
end Go.Proofs.Ytoncignjcgjhhaa.S
namespace Go.Proofs.Ytoncignjcgjhhaa.S
open Go.RowKit Go.Proofs.YtoncignjcgjhhaaW.PrintWords Go.Proofs.YtoncignjcgjhhaaW.PrintLast Go.Proofs.YtoncignjcgjhhaaW.PrintMore
open Go.Proofs.Ytoncignjcgjhhaa.Q
open Go.Proofs.Ytoncignjcgjhhaa.L (w64 td tm tm0)
def Sp.inn (s : Sp) (back : Bool) (x z d : Int) : Nat → Nat → Option (List Int × Bool)
 | 0, _ => none
 | f + 1, i => match s.pt x (d * ((i : Int) + 1)) with
  | none => some ([], false)
  | some n => if n = z then some ([], true) else if (if back = true then n < z else n > z) then some ([], false)
   else if 1200 < (i : Int) + 2 then none else (s.inn back x z d f (i + 1)).map fun p => (n :: p.1, p.2)
def Sp.back (s : Sp) : Bool := decide (s.st ≤ 2)
def cutL (long e : Bool) (l : List Int) : List Int := if long = true ∧ e = false ∧ 0 < l.length then l.take (l.length - 1) else l
def ordL (back : Bool) (l : List Int) : List Int := if back = true then l.reverse else l
def Sp.long (s : Sp) : Bool := decide (s.st = 2 ∨ s.st = 4)
def Sp.out (s : Sp) (l : List Int) (e : Bool) : List Int := s.a :: ordL s.back (cutL s.long e l) ++ [s.b]
noncomputable def Sp.dates (s : Sp) : List Int × Int :=
  if s.chk = 0 then (match (if s.back = true then s.inn true s.b s.a (-1) 1200 0 else s.inn false s.a s.b 1 1200 0) with | none => ([], 81) | some (l, e) => (s.out l e, 0)) else ([], s.chk)
theorem rdI (l : List Int) (i : Nat) (h : i < l.length) : rd l (i : Int) = l[i] := by simp [rd, h]
theorem take_snoc (l : List Int) (i : Nat) (h : i < l.length) : l.take i ++ [l[i]] = l.take (i + 1) := by
  rw [List.take_add_one, List.getElem?_eq_getElem h]; rfl
theorem ord_len (b : Bool) (l : List Int) : (ordL b l).length = l.length := by unfold ordL; split <;> simp
theorem ord_rd (b : Bool) (l : List Int) (i : Nat) (h : i < l.length) : (ordL b l)[i]'(by rw [ord_len]; exact h) = if b = true then rd l ((l.length : Int) - 1 - (i : Int)) else rd l (i : Int) := by
 cases b with
 | true =>
  have e : (l.length : Int) - 1 - (i : Int) = ((l.length - 1 - i : Nat) : Int) := by omega
  rw [if_pos rfl, e, rdI _ _ (by omega)]
  simp [ordL]
 | false => rw [if_neg (by decide), rdI _ _ h]; rfl
theorem cut_len (a e : Bool) (l : List Int) : (cutL a e l).length ≤ l.length := by unfold cutL; split <;> simp <;> omega
theorem chk_ok {s : Sp} (h : s.chk = 0) : s.days ∧ s.fit ∧ ck s.we s.l = 0 := by
 by_cases h1 : s.days
 ·
  by_cases h2 : s.fit
  ·
   rw [chk_fit h1 h2] at h; exact ⟨h1, h2, h⟩
  ·
   rw [chk_unfit h1 h2] at h; exact absurd h (by decide)
 ·
  rw [chk_days h1] at h; exact absurd h (by decide)
theorem sD_l1 (s : Sp) (b : Bool) (l : List Int) (hl : l.length ≤ 5000) : ∀ (f i : Nat), l.length - i = f → i ≤ l.length →
  Ev (fun q => sched_Dates.l1 q b l (s.a :: (ordL b l).take i) (l.length : Int) (i : Int) s.a s.b s.n s.u s.st s.ro s.cv s.lag s.we s.l) (s.a :: ordL b l ++ [s.b], (0 : Int))
 | 0, i, hf, hi => by
  have c1 : ¬ (i : Int) < (l.length : Int) := by omega
  have e : (ordL b l).take i = ordL b l := List.take_of_length_le (by rw [ord_len]; omega)
  have c2 : (s.a :: ordL b l).length < 17592186044416 := by rw [List.length_cons, ord_len]; omega
  refine Ev.step (f := fun _ => some (s.a :: ordL b l ++ [s.b], (0 : Int))) (fun q => ?_) (Ev.now _)
  rw [sched_Dates.l1, if_neg c1, e, if_pos c2]
 | f + 1, i, hf, hi => by
  have hlt : i < l.length := by omega
  have c1 : (i : Int) < (l.length : Int) := by omega
  have c0 : (0 : Int) ≤ (i : Int) := by omega
  have hw : wrap64 ((i : Int) + 1) = ((i + 1 : Nat) : Int) := by rw [w64 (by omega) (by omega)]; push_cast; rfl
  have hv : wrap64 (wrap64 ((l.length : Int) - 1) - (i : Int)) = (l.length : Int) - 1 - (i : Int) := by rw [w64 (x := (l.length : Int) - 1) (by omega) (by omega), w64 (by omega) (by omega)]
  have c2 : (s.a :: (ordL b l).take i).length < 17592186044416 := by rw [List.length_cons, List.length_take]; omega
  have c3 : (0 : Int) ≤ (l.length : Int) - 1 - (i : Int) := by omega
  have c4 : (l.length : Int) - 1 - (i : Int) < (l.length : Int) := by omega
  have hsn : (ordL b l).take i ++ [if b = true then rd l ((l.length : Int) - 1 - (i : Int)) else rd l (i : Int)] = (ordL b l).take (i + 1) := by
   rw [← ord_rd b l i hlt]; exact take_snoc _ i _
  refine Ev.step (fun q => ?_) (sD_l1 s b l hl f (i + 1) (by omega) (by omega))
  rw [sched_Dates.l1, if_pos c1, hw, hv, ← hsn]
  cases b with
  | true => rw [if_pos rfl, if_pos c3, if_pos c4, if_pos c2, if_pos rfl]; rfl
  | false => rw [if_neg (by decide), if_pos c0, if_pos c1, if_pos c2, if_neg (by decide)]; rfl
theorem sD_j7 (s : Sp) (b : Bool) (l : List Int) (hl : l.length ≤ 5000) : Ev (fun q => sched_Dates.j7 q b l s.a s.b s.n s.u s.st s.ro s.cv s.lag s.we s.l) (s.a :: ordL b l ++ [s.b], (0 : Int)) := by
 have hw : wrap64 ((l.length : Int) + 2) = (l.length : Int) + 2 := w64 (by omega) (by omega)
 have c1 : (0 : Int) ≤ (l.length : Int) + 2 := by omega
 have c2 : ((l.length : Int) + 2).toNat ≤ 35184372088832 := by omega
 have h := sD_l1 s b l hl l.length 0 (by omega) (by omega)
 refine Ev.step (fun q => ?_) h
 rw [sched_Dates.j7, hw, if_pos c1, if_pos c2]
 simp only [List.replicate_zero, Option.bind_some, List.length_nil, List.nil_append, List.take_zero]
 rw [if_pos (by decide)]
 rfl
theorem sD_j4 (s : Sp) (b e : Bool) (l : List Int) (hl : l.length ≤ 5000) : Ev (fun q => sched_Dates.j4 q b l e s.a s.b s.n s.u s.st s.ro s.cv s.lag s.we s.l) (s.a :: ordL b (cutL s.long e l) ++ [s.b], (0 : Int)) := by
 have h6 : ∀ t : Bool, (t = true ↔ s.long = true ∧ e = false ∧ 0 < l.length) → Ev (fun q => sched_Dates.j6 q b l t s.a s.b s.n s.u s.st s.ro s.cv s.lag s.we s.l) (s.a :: ordL b (cutL s.long e l) ++ [s.b], (0 : Int)) := by
  intro t ht
  cases t with
  | true =>
   have h := ht.1 rfl
   have hw : wrap64 ((l.length : Int) - 1) = (l.length : Int) - 1 := w64 (by omega) (by omega)
   have c1 : (0 : Int) ≤ (l.length : Int) - 1 := by omega
   have c2 : (l.length : Int) - 1 ≤ (l.length : Int) := by omega
   have e1 : ((l.length : Int) - 1).toNat = l.length - 1 := by omega
   have e2 : cutL s.long e l = l.take (l.length - 1) := if_pos h
   rw [e2]
   refine Ev.step (fun q => ?_) (sD_j7 s b (l.take (l.length - 1)) (by rw [List.length_take]; omega))
   rw [sched_Dates.j6, if_pos rfl, hw, if_pos c1, if_pos c2, e1]
  | false =>
   have e2 : cutL s.long e l = l := if_neg (fun h => by have := ht.2 h; cases this)
   rw [e2]
   exact Ev.step (fun q => by rw [sched_Dates.j6, if_neg (by decide)]) (sD_j7 s b l hl)
 have h5 : ∀ t : Bool, t = s.long → Ev (fun q => sched_Dates.j5 q b l e t s.a s.b s.n s.u s.st s.ro s.cv s.lag s.we s.l) (s.a :: ordL b (cutL s.long e l) ++ [s.b], (0 : Int)) := by
  intro t ht
  cases t with
  | true =>
   cases e with
   | true => exact Ev.step (fun q => by rw [sched_Dates.j5, if_pos rfl, if_pos rfl]) (h6 false (by simp))
   | false =>
    refine Ev.step (fun q => by rw [sched_Dates.j5, if_pos rfl, if_neg (by decide)]) (h6 _ ?_)
    rw [← ht, decide_eq_true_iff]
    constructor
    ·
     intro h; exact ⟨rfl, rfl, by omega⟩
    ·
     intro h; have := h.2.2; omega
  | false => exact Ev.step (fun q => by rw [sched_Dates.j5, if_neg (by decide)]) (h6 false (by rw [← ht]; simp))
 by_cases h2 : s.st = 2
 ·
  exact Ev.step (fun q => by rw [sched_Dates.j4, if_pos h2]) (h5 true (by unfold Sp.long; rw [decide_eq_true (Or.inl h2)]))
 ·
  refine Ev.step (fun q => by rw [sched_Dates.j4, if_neg h2]) (h5 _ ?_)
  unfold Sp.long
  rw [Bool.eq_iff_iff, beq_iff_eq, decide_eq_true_iff]
  constructor
  ·
   intro h; exact .inr h
  ·
   intro h; exact h.resolve_left h2
theorem sD_l0 (s : Sp) (hf : s.fit) (b : Bool) (x z d : Int) (hx : 0 ≤ x ∧ x ≤ 109572) (hd : d = 1 ∨ d = -1) (R : List Int × Int) : ∀ (f i : Nat) (acc : List Int), i + f = 1200 → acc.length = i →
  (match s.inn b x z d f i with | none => R = ([], 81) | some (l, e) => R = (s.a :: ordL b (cutL s.long e (acc ++ l)) ++ [s.b], 0)) → f ≠ 0 →
  Ev (fun q => sched_Dates.l0 q b x z d acc false (i : Int) s.a s.b s.n s.u s.st s.ro s.cv s.lag s.we s.l) R
 | 0, i, acc, h1, h2, h3, h4 => absurd rfl h4
 | f + 1, i, acc, h1, h2, h3, _ => by
  obtain ⟨p, hp, ht⟩ := sPoint s x (d * ((i : Int) + 1)) hx hf
  have c1 : (i : Int) < 1201 := by omega
  have hw1 : wrap64 ((i : Int) + 1) = (i : Int) + 1 := w64 (by omega) (by omega)
  have hw2 : wrap64 (d * ((i : Int) + 1)) = d * ((i : Int) + 1) := by
   rcases hd with rfl | rfl <;> exact w64 (by omega) (by omega)
  have hs : ∀ q, sched_Dates.l0 (q + 1) b x z d acc false (i : Int) s.a s.b s.n s.u s.st s.ro s.cv s.lag s.we s.l = _ := fun q => by rw [sched_Dates.l0, if_pos c1, hw1, hw2]
  refine Ev.step hs (Ev.bind hp ?_)
  clear hs
  rw [Sp.inn] at h3
  cases ho : s.pt x (d * ((i : Int) + 1)) with
  | none =>
   rw [ho] at h3 ht
   simp only at h3
   have hpf : p.2 = false := ht
   rw [List.append_nil] at h3
   rw [h3]
   refine Ev.congr (fun q => if_neg (by rw [hpf]; decide)) (sD_j4 s b false acc (by omega))
  | some n =>
   rw [ho] at h3 ht
   obtain rfl : p = (n, true) := ht
   refine Ev.congr (fun q => if_pos rfl) ?_
   simp only at h3
   by_cases hz : n = z
   ·
    rw [if_pos hz] at h3
    simp only at h3
    rw [List.append_nil] at h3
    rw [h3]
    exact Ev.congr (fun q => if_pos hz) (sD_j4 s b true acc (by omega))
   ·
    rw [if_neg hz] at h3
    refine Ev.congr (fun q => if_neg hz) ?_
    have hj3 : ∀ t : Bool, (t = true ↔ (if b = true then n < z else n > z)) → Ev (fun q => sched_Dates.j3 q b x z d acc false (i : Int) n (i : Int) t s.a s.b s.n s.u s.st s.ro s.cv s.lag s.we s.l) R := by
     intro t htt
     cases t with
     | true =>
      rw [if_pos (htt.1 rfl)] at h3
      simp only at h3
      rw [List.append_nil] at h3
      rw [h3]
      exact Ev.step (fun q => by rw [sched_Dates.j3, if_pos rfl]) (sD_j4 s b false acc (by omega))
     | false =>
      rw [if_neg (fun h => by have := htt.2 h; cases this)] at h3
      have hw3 : wrap64 ((i : Int) + 2) = (i : Int) + 2 := w64 (by omega) (by omega)
      by_cases c5 : 1200 < (i : Int) + 2
      ·
       rw [if_pos c5] at h3
       simp only at h3
       rw [h3]
       exact Ev.step (f := fun _ => some (([] : List Int), (81 : Int))) (fun q => by rw [sched_Dates.j3, if_neg (by decide), hw3, if_pos c5]) (Ev.now _)
      ·
       rw [if_neg c5] at h3
       have c6 : acc.length < 17592186044416 := by omega
       have hw4 : wrap64 ((i : Int) + 1) = ((i + 1 : Nat) : Int) := by rw [hw1]; push_cast; rfl
       refine Ev.step (fun q => by rw [sched_Dates.j3, if_neg (by decide), hw3, if_neg c5, if_pos c6, hw4]) (sD_l0 s hf b x z d hx hd R f (i + 1) (acc ++ [n]) (by omega) (by rw [List.length_append, h2]; rfl) ?_ (by omega))
       cases hi : s.inn b x z d f (i + 1) with
       | none => rw [hi] at h3; exact h3
       | some le => rw [hi] at h3; simpa using h3
    cases b with
    | true =>
     refine Ev.congr (fun q => if_pos rfl) (ev_ite (fun c => hj3 true (by simp [c])) (fun c => hj3 false (by rw [if_pos rfl]; exact ⟨fun h => (by cases h), fun h => absurd h c⟩)))
    | false =>
     exact Ev.congr (fun q => if_neg (by decide)) (hj3 _ (by simp))
theorem sDates (s : Sp) (hw : wfL s.l) : Ev (fun q => sched_Dates.f q s.a s.b s.n s.u s.st s.ro s.cv s.lag s.we s.l) s.dates := by
 refine Ev.congr (fun q => by unfold sched_Dates.f; rfl) (Ev.bind (sCheck s hw) ?_)
 unfold Sp.dates
 by_cases hc : s.chk = 0
 ·
  rw [if_pos hc]
  obtain ⟨hd, hf, _⟩ := chk_ok hc
  have hst := hf.2.2.2.1
  have hj : ∀ (b : Bool), b = s.back → Ev (fun q => sched_Dates.j0 q b s.a s.b s.n s.u s.st s.ro s.cv s.lag s.we s.l) (match (if s.back = true then s.inn true s.b s.a (-1) 1200 0 else s.inn false s.a s.b 1 1200 0) with | none => ([], 81) | some (l, e) => (s.out l e, 0)) := by
   intro b hb
   unfold Sp.out
   rw [← hb]
   cases b with
   | true =>
    rw [if_pos rfl]
    refine Ev.step (fun q => by rw [sched_Dates.j0, if_pos rfl]) (Ev.step (fun q => by rw [sched_Dates.j1]; rfl) (sD_l0 s hf true s.b s.a (-1) hd.2 (.inr rfl) _ 1200 0 [] rfl rfl ?_ (by decide)))
    cases s.inn true s.b s.a (-1) 1200 0 <;> rfl
   | false =>
    rw [if_neg (by decide)]
    refine Ev.step (fun q => by rw [sched_Dates.j0, if_neg (by decide)]) (Ev.step (fun q => by rw [sched_Dates.j1]; rfl) (sD_l0 s hf false s.a s.b 1 hd.1 (.inl rfl) _ 1200 0 [] rfl rfl ?_ (by decide)))
    cases s.inn false s.a s.b 1 1200 0 <;> rfl
  refine Ev.congr (fun q => if_pos hc) (ev_ite (fun h1 => hj true (by unfold Sp.back; rw [decide_eq_true (by omega)])) (fun h1 => hj _ ?_))
  unfold Sp.back
  rw [Bool.eq_iff_iff, beq_iff_eq, decide_eq_true_iff]; omega
 ·
  rw [if_neg hc]
  exact Ev.congr (fun q => if_neg hc) (Ev.now _)
end Go.Proofs.Ytoncignjcgjhhaa.S
