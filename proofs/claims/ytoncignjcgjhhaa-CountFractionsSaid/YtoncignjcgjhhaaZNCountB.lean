/- The part of a year in the document. No condition. -/
import Derived.Test.YtoncignjcgjhhaaZNCountA
import Derived.Test.YtoncignjcgjhhaaZN
set_option linter.unusedVariables false
set_option linter.unusedSimpArgs false
namespace Go.Proofs.Ytoncignjcgjhhaa.N
open Go.RowKit Go.Proofs.YtoncignjcgjhhaaW.PrintWords Go.Proofs.YtoncignjcgjhhaaW.PrintLast Go.Proofs.YtoncignjcgjhhaaW.PrintMore
open Go.Proofs.Ytoncignjcgjhhaa.Q
open Go.Proofs.Ytoncignjcgjhhaa.L (w64 td tm tm0)
theorem act_l0 (b : Int) (hb : 0 ≤ b ∧ b ≤ 109572) : ∀ (f : Nat) (y a o : Int), 2199 - y = f → 1900 ≤ y → M.before y ≤ a → a ≤ b → a ≤ M.before (y + 1) → 0 ≤ o → o ≤ 366 * a →
    Ev (fun k => tenorref7_actual.l0 k a b o y) (o + (366 * (b - a) - (leaps b - ly y a)))
  | f, y, a, o, hf, hy, h1, h2, h3, h4, h5 => by
    have h0 : 0 ≤ a := by have := M.before_le hy; rw [M.before_1900] at this; omega
    by_cases hlt : a < b
    · have hs := M.before_succ y
      have hlp := M.lp_01 y
      have hend : ∃ e : Int, e = M.before (y + 1) ∧ ∀ T : Int × Int → Nat → Option Int, ∀ R : Int, (∀ e2 : Int, (e2 = 0 ∨ (¬ e2 = 0 ∧ e = 109573)) → Ev (fun k => T (if e2 = 0 then e else 0, e2) k) R) → Ev (fun k => (tenorref5_Of.f k (wrap64 (y + 1)) 1 1).bind fun bt => T bt k) R := by
        refine ⟨_, rfl, fun T R hT => ?_⟩
        have ho := Go.Proofs.Ytoncignjcgjhhaa.R.Of (y + 1) 1 1
        have hw : wrap64 (y + 1) = y + 1 := w64 (by omega) (by omega)
        refine Ev.congr (fun k => by rw [hw]) (Ev.bind ho ?_)
        by_cases hd : M.isDate (y + 1) 1 1
        · rw [if_pos hd]
          have hdo : M.dayOf (y + 1) 1 1 = M.before (y + 1) := by unfold M.dayOf; rw [M.cum_1]; omega
          rw [hdo]
          exact hT 0 (.inl rfl)
        · rw [if_neg hd]
          have hy2 : y = 2199 := by
            have := M.mlen_rng (y + 1) 1
            unfold M.isDate at hd; omega
          have := hT 50 (.inr ⟨by decide, by rw [hy2]; exact M.before_2200⟩)
          exact this
      obtain ⟨e, he, hof⟩ := hend
      have hlyr := ly_rng (y := y) ⟨hy, by omega⟩ h1 h3
      -- one year
      have hone : ∀ (d : Int), (M.leap y = true → d = 365) → (M.leap y = false → d = 366) → Ev (fun k => tenorref7_actual.l0 k (wrap64 (a + wrap64 (mn e b - a))) b (wrap64 (o + wrap64 (d * wrap64 (mn e b - a)))) (wrap64 (y + 1))) (o + (366 * (b - a) - (leaps b - ly y a))) := by
        intro d hd1 hd2
        have hdr : d = 365 ∨ d = 366 := by cases hl : M.leap y; exact .inr (hd2 hl); exact .inl (hd1 hl)
        obtain ⟨m, hm, hm1⟩ : ∃ m : Int, mn e b = m ∧ ((e < b ∧ m = e) ∨ (b ≤ e ∧ m = b)) := by
          refine ⟨_, rfl, ?_⟩
          unfold mn
          split <;> omega
        have hml : a ≤ m ∧ m ≤ b := by omega
        have hdm : ∀ x : Int, 0 ≤ x → x ≤ 109572 → 0 ≤ d * x ∧ d * x ≤ 366 * x := by
          intro x x0 x1; rcases hdr with h | h <;> (rw [h]; omega)
        have hdm' := hdm (m - a) (by omega) (by omega)
        have e1 : wrap64 (m - a) = m - a := w64 (by omega) (by omega)
        have e2 : wrap64 (a + (m - a)) = m := by rw [w64 (by omega) (by omega)]; omega
        have e3 : wrap64 (d * (m - a)) = d * (m - a) := w64 (by omega) (by omega)
        have e4 : wrap64 (o + d * (m - a)) = o + d * (m - a) := w64 (by omega) (by omega)
        have e5 : wrap64 (y + 1) = y + 1 := w64 (by omega) (by omega)
        rw [hm, e1, e2, e3, e4, e5]
        have hstep : d * (m - a) = 366 * (m - a) - (ly y m - ly y a) := by
          unfold ly
          cases hl : M.leap y with
          | true => rw [hd1 hl, if_pos rfl, if_pos rfl]; omega
          | false => rw [hd2 hl, if_neg (by decide), if_neg (by decide)]; omega
        by_cases hbe : b ≤ e
        · have hmb : m = b := by omega
          subst hmb
          rw [leaps_y hy hb (by omega) (by omega)]
          have hnb : ¬ m < m := by omega
          have hx : Ev (fun k => tenorref7_actual.j1 k m m (o + d * (m - a)) (y + 1) false) (o + (366 * (m - a) - (ly y m - ly y a))) := by
            rw [hstep]
            exact Ev.step (fun k => by rw [tenorref7_actual.j1, if_neg (by decide)]) (Ev.now _)
          exact Ev.step (fun k => by rw [tenorref7_actual.l0]) (ev_ite (fun _ => Ev.congr (fun k => by rw [decide_eq_false hnb]) hx) (fun _ => hx))
        · have hme : m = e := by omega
          have hy3 : y + 1 ≤ 2199 := by
            by_cases h : y = 2199
            · rw [h] at he; have := M.before_2200; rw [show (2199 : Int) + 1 = 2200 by decide] at he; omega
            · omega
          match f, hf with
          | 0, hf => omega
          | f + 1, hf =>
            have hs2 := M.before_succ (y + 1)
            have hlp2 := M.lp_01 (y + 1)
            have := act_l0 b hb f (y + 1) m (o + d * (m - a)) (by omega) (by omega) (by omega) (by omega) (by omega) (by omega) (by omega)
            rw [hstep] at this ⊢
            rw [hme, he, ly_end hy] at this
            rw [hme, he]
            have e6 : o + (366 * (M.before (y + 1) - a) - (ly y (M.before (y + 1)) - ly y a)) + (366 * (b - M.before (y + 1)) - (leaps b - ly y (M.before (y + 1)))) = o + (366 * (b - a) - (leaps b - ly y a)) := by omega
            rw [e6] at this
            exact this
      have hyle : y ≤ 2199 := by omega
      refine Ev.step (fun k => by rw [tenorref7_actual.l0, if_pos hyle, decide_eq_true hlt]) (Ev.step (fun k => by rw [tenorref7_actual.j1, if_pos rfl]) ?_)
      refine hof (fun bt k => if bt.2 = 0 then ((tenorref5_Leap.f y).bind fun t => (if t = true then (tenorref7_actual.l0 k (wrap64 (a + (wrap64 ((mn bt.1 b) - a)))) b (wrap64 (o + (wrap64 (365 * (wrap64 ((mn bt.1 b) - a)))))) (wrap64 (y + 1))) else (tenorref7_actual.l0 k (wrap64 (a + (wrap64 ((mn bt.1 b) - a)))) b (wrap64 (o + (wrap64 (366 * (wrap64 ((mn bt.1 b) - a)))))) (wrap64 (y + 1))))) else ((tenorref5_Leap.f y).bind fun t => (if t = true then (tenorref7_actual.l0 k (wrap64 (a + (wrap64 ((mn 109573 b) - a)))) b (wrap64 (o + (wrap64 (365 * (wrap64 ((mn 109573 b) - a)))))) (wrap64 (y + 1))) else (tenorref7_actual.l0 k (wrap64 (a + (wrap64 ((mn 109573 b) - a)))) b (wrap64 (o + (wrap64 (366 * (wrap64 ((mn 109573 b) - a)))))) (wrap64 (y + 1)))))) _ (fun e2 he2 => ?_)
      rcases he2 with h0 | ⟨h0, h1⟩
      · subst h0
        refine Ev.congr (fun k => by simp only [if_true]; rw [R.Leap, Option.bind_some]) ?_
        refine ev_ite (fun hl => ?_) (fun hl => ?_)
        · exact hone 365 (fun _ => rfl) (fun h => by rw [h] at hl; cases hl)
        · exact hone 366 (fun h => absurd h hl) (fun _ => rfl)
      · refine Ev.congr (fun k => by simp only [if_neg h0]; rw [R.Leap, Option.bind_some, ← h1]) ?_
        refine ev_ite (fun hl => ?_) (fun hl => ?_)
        · exact hone 365 (fun _ => rfl) (fun h => by rw [h] at hl; cases hl)
        · exact hone 366 (fun h => absurd h hl) (fun _ => rfl)
    · have hab : a = b := by omega
      subst hab
      rw [leaps_y hy hb h1 h3]
      have hx : Ev (fun k => tenorref7_actual.j1 k a a o y false) (o + (366 * (a - a) - (ly y a - ly y a))) := by
        rw [show o + (366 * (a - a) - (ly y a - ly y a)) = o by omega]
        exact Ev.step (fun k => by rw [tenorref7_actual.j1, if_neg (by decide)]) (Ev.now _)
      exact Ev.step (fun k => by rw [tenorref7_actual.l0]) (ev_ite (fun _ => Ev.congr (fun k => by rw [decide_eq_false hlt]) hx) (fun _ => hx))
theorem ractual (a b : Int) (ha : 0 ≤ a ∧ a ≤ 109572) (hb : 0 ≤ b ∧ b ≤ 109572) (h : ¬ b < a) : Ev (fun k => tenorref7_actual.f k a b) (act b - act a) := by
  obtain ⟨c1, c2, c3, c4⟩ := civ_day ha
  have hc := R.Civil a
  rw [if_pos ha] at hc
  refine Ev.congr (fun k => by unfold tenorref7_actual.f; rfl) (Ev.bind hc ?_)
  have := act_l0 b hb (2199 - M.civY a).toNat (M.civY a) a 0 (by omega) c1 c3 (by omega) (by omega) (by omega) (by omega)
  have e : 0 + (366 * (b - a) - (leaps b - ly (M.civY a) a)) = act b - act a := by
    unfold act
    show 0 + (366 * (b - a) - (leaps b - leaps a)) = _
    omega
  rw [e] at this
  exact this
theorem rthirty (kind : Int) (a b : Int) (ha : 0 ≤ a ∧ a ≤ 109572) (hb : 0 ≤ b ∧ b ≤ 109572) : Ev (fun k => tenorref7_thirty.f k kind a b) (thirty (decide (kind = 5)) a b) := by
  have hc := R.Civil a
  rw [if_pos ha] at hc
  have hd := R.Civil b
  rw [if_pos hb] at hd
  refine Ev.congr (fun k => by unfold tenorref7_thirty.f; rfl) (Ev.bind hc (Ev.bind hd ?_))
  unfold thirty
  refine ev_ite (fun h => ?_) (fun h => ev_ite (fun h2 => ?_) (fun h2 => ?_))
  · rw [if_pos (decide_eq_true h)]; exact Ev.now _
  · rw [if_neg (fun e => h (of_decide_eq_true e)), if_pos h2]; exact Ev.now _
  · rw [if_neg (fun e => h (of_decide_eq_true e)), if_neg h2]; exact Ev.now _
theorem rj2 (kind we : Int) (l : List S63) (a b : Int) (hk : 1 ≤ kind ∧ kind ≤ 6) (ha : 0 ≤ a ∧ a ≤ 109572) (hb : 0 ≤ b ∧ b ≤ 109572) (h : ¬ b < a) : Ev (fun k => tenorref7_Fraction.j2 k kind a b false we l) (up kind we l a b) := by
  refine Ev.step (fun k => by rw [tenorref7_Fraction.j2, if_neg (by decide), if_neg h]) ?_
  have hw1 : wrap64 (b - a) = b - a := w64 (by omega) (by omega)
  unfold up
  refine ev_ite (fun k1 => ?_) (fun k1 => ev_ite (fun k2 => ?_) (fun k2 => ev_ite (fun k3 => ?_) (fun k3 => ev_ite (fun k6 => ?_) (fun k6 => ?_))))
  · rw [if_pos k1, hw1]; exact Ev.now _
  · rw [if_neg k1, if_pos k2, hw1]; exact Ev.now _
  · rw [if_neg k1, if_neg k2, if_pos k3]
    exact Ev.bind (ractual a b ha hb h) (Ev.now _)
  · rw [if_neg k1, if_neg k2, if_neg k3, if_neg (show ¬ kind = 4 by omega), if_neg (show ¬ kind = 5 by omega)]
    exact Ev.bind (R.Count we l a b) (Ev.now _)
  · rw [if_neg k1, if_neg k2, if_neg k3]
    have ht := rthirty kind a b ha hb
    by_cases k4 : kind = 4
    · rw [if_pos k4]; rw [decide_eq_false (show ¬ kind = 5 by omega)] at ht
      exact Ev.bind ht (Ev.now _)
    · rw [if_neg k4, if_pos (show kind = 5 by omega)]; rw [decide_eq_true (show kind = 5 by omega)] at ht
      exact Ev.bind ht (Ev.now _)
theorem rj1 (kind we : Int) (l : List S63) (a b : Int) (R : Int × Int × Int) (hd : ∀ x : Bool, (x = true ↔ ¬ ((0 ≤ a ∧ a ≤ 109572) ∧ (0 ≤ b ∧ b ≤ 109572))) → Ev (fun k => tenorref7_Fraction.j2 k kind a b x we l) R) : Ev (fun k => tenorref7_Fraction.j1 k kind a b we l) R := by
  refine Ev.step (fun k => by rw [tenorref7_Fraction.j1]) (ev_ite (fun h => hd true ?_) (fun h1 => ev_ite (fun h => hd true ?_) (fun h2 => ev_ite (fun h => hd true ?_) (fun h3 => hd _ ?_))))
  · exact ⟨fun _ => by omega, fun _ => rfl⟩
  · exact ⟨fun _ => by omega, fun _ => rfl⟩
  · exact ⟨fun _ => by omega, fun _ => rfl⟩
  · rw [decide_eq_true_iff]; omega
theorem rUp (kind we : Int) (l : List S63) (a b : Int) (hk : 1 ≤ kind ∧ kind ≤ 6) (hc : kind = 6 → (M.chk we (l.map H.ru)).1 = 0) (R : Int × Int × Int) (h : Ev (fun k => tenorref7_Fraction.j1 k kind a b we l) R) : Ev (fun k => tenorref7_Fraction.f k kind we l a b) R := by
  refine Ev.step (fun k => by rw [tenorref7_Fraction.f, if_neg (by omega), decide_eq_false (by omega)]) ?_
  refine Ev.step (fun k => by rw [tenorref7_Fraction.j0, if_neg (by decide)]) ?_
  refine ev_ite (fun k6 => ?_) (fun _ => h)
  exact Ev.bind (Go.Proofs.Ytoncignjcgjhhaa.R.Check we l) (Ev.congr (fun k => if_pos (hc k6)) h)
theorem rFrac (kind we : Int) (l : List S63) (a b : Int) : Ev (fun k => tenorref7_Fraction.f k kind we l a b) (frac kind we l a b) := by
  unfold frac
  by_cases hk : kind < 1 ∨ 6 < kind
  · rw [if_pos hk]
    have hj : Ev (fun k => tenorref7_Fraction.j0 k kind a b true we l) ((0, 0, 70) : Int × Int × Int) := Ev.step (fun k => by rw [tenorref7_Fraction.j0, if_pos rfl]) (Ev.now _)
    refine Ev.step (fun k => by rw [tenorref7_Fraction.f]) (ev_ite (fun _ => hj) (fun h => ?_))
    exact Ev.congr (fun k => by rw [decide_eq_true (show kind > 6 by omega)]) hj
  · rw [if_neg hk]
    by_cases hc : kind = 6 ∧ ¬ (M.chk we (l.map H.ru)).1 = 0
    · rw [if_pos hc]
      refine Ev.step (fun k => by rw [tenorref7_Fraction.f, if_neg (by omega), decide_eq_false (by omega)]) ?_
      refine Ev.step (fun k => by rw [tenorref7_Fraction.j0, if_neg (by decide), if_pos hc.1]) (Ev.bind (R.Check we l) (Ev.congr (fun k => if_neg hc.2) (Ev.now _)))
    · rw [if_neg hc]
      have hc6 : kind = 6 → (M.chk we (l.map H.ru)).1 = 0 := fun h => Classical.byContradiction (fun hn => hc ⟨h, hn⟩)
      refine rUp kind we l a b (by omega) hc6 _ (rj1 kind we l a b _ (fun x hx => ?_))
      by_cases hd : (0 ≤ a ∧ a ≤ 109572) ∧ (0 ≤ b ∧ b ≤ 109572)
      · rw [if_neg (fun h => h hd)]
        have hxf : x = false := by cases x; rfl; exact absurd hd (hx.1 rfl)
        subst hxf
        by_cases hlt : b < a
        · rw [if_pos hlt]
          refine Ev.step (fun k => by rw [tenorref7_Fraction.j2, if_neg (by decide), if_pos hlt]) ?_
          refine Ev.bind (rUp kind we l b a (by omega) hc6 _ (rj1 kind we l b a _ (fun x hx => ?_))) (Ev.now _)
          have hxf : x = false := by cases x; rfl; exact absurd ⟨hd.2, hd.1⟩ (hx.1 rfl)
          subst hxf
          exact rj2 kind we l b a (by omega) hd.2 hd.1 (by omega)
        · rw [if_neg hlt]
          exact rj2 kind we l a b (by omega) hd.1 hd.2 hlt
      · rw [if_pos hd, hx.2 hd]
        exact Ev.step (fun k => by rw [tenorref7_Fraction.j2, if_pos rfl]) (Ev.now _)
end Go.Proofs.Ytoncignjcgjhhaa.N
