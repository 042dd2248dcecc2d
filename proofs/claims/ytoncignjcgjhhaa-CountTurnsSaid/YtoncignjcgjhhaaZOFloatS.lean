/- The years' floats of two fractions of one denominator, compared. Conditions: the upper numbers are below 2^40 in size, the denominator is positive and below 2^20. -/
import Derived.Test.YtoncignjcgjhhaaZOFloatR
import Derived.Test.YtoncignjcgjhhaaZOCYear
import Derived.Test.YtoncignjcgjhhaaZO
set_option linter.unusedVariables false
set_option linter.unusedSimpArgs false
namespace Go.Proofs.Ytoncignjcgjhhaa.FQ
open Ieee
open Go.Proofs.Ytoncignjcgjhhaa.Q (quo64)
theorem fit_of {p q : Int} (h0 : 0 < p) (h1 : p < 1099511627776) (q0 : 0 < q) (q1 : q < 1048576) : Fit p.toNat q.toNat := by
  refine ⟨by omega, ?_, by omega, ?_⟩
  · have := (Nat.log2_lt (show p.toNat ≠ 0 by omega)).2 (show p.toNat < 2 ^ 40 by omega); omega
  · have := (Nat.log2_lt (show q.toNat ≠ 0 by omega)).2 (show q.toNat < 2 ^ 20 by omega); omega
theorem of_pos {n : Int} (h : 0 < n) : floatOfInt .f64 n = double.nearest false n.toNat 0 := by
  show double.nearest (decide (n < 0)) n.natAbs 0 = _
  rw [decide_eq_false (by omega), show n.natAbs = n.toNat by omega]
theorem of_neg {n : Int} (h : n < 0) : floatOfInt .f64 n = double.nearest true (-n).toNat 0 := by
  show double.nearest (decide (n < 0)) n.natAbs 0 = _
  rw [decide_eq_true h, show n.natAbs = (-n).toNat by omega]
/-- What a quotient's float is: its worth, and its opposite. -/
theorem quo_val {p q : Int} (h1 : -1099511627776 < p ∧ p < 1099511627776) (q0 : 0 < q) (q1 : q < 1048576) : ∃ v, quo64 p q = some v ∧ ∃ (s : Bool) (m a : Nat), double.read v = .number s m (-1074 + (a : Int)) ∧ double.read (Go.Op.negFloat .f64 v) = .number (!s) m (-1074 + (a : Int)) ∧ sgn s (m * 2 ^ a) = worth p q.toNat := by
  unfold quo64
  show ∃ v, double.div (floatOfInt .f64 p) (floatOfInt .f64 q) = some v ∧ _
  rw [of_pos q0]
  have hw : ∀ (s : Bool) (r : Nat), 4503599627370496 ≤ r ∧ r < 9218868437227405312 → double.read (double.word s r) = .number s (4503599627370496 + r % 4503599627370496) (-1074 + ((r / 4503599627370496 - 1 : Nat) : Int)) ∧ double.read (Go.Op.negFloat .f64 (double.word s r)) = .number (!s) (4503599627370496 + r % 4503599627370496) (-1074 + ((r / 4503599627370496 - 1 : Nat) : Int)) := by
    intro s r hr
    refine ⟨read_word s hr.1 hr.2, ?_⟩
    rw [neg_word s (by omega)]; exact read_word (!s) hr.1 hr.2
  unfold worth
  by_cases hp : 0 < p
  · have hf := fit_of hp h1.2 q0 q1
    rw [of_pos hp, if_pos hp]
    obtain ⟨a, b⟩ := hw false _ (rung_rng hf)
    exact ⟨_, div_nat false hf, false, _, _, a, b, rfl⟩
  · rw [if_neg hp]
    by_cases hn : p < 0
    · have hf := fit_of (p := -p) (by omega) (by omega) q0 q1
      rw [of_neg hn, if_pos hn]
      obtain ⟨a, b⟩ := hw true _ (rung_rng hf)
      exact ⟨_, div_nat true hf, true, _, _, a, b, rfl⟩
    · rw [if_neg hn]
      have hz : p = 0 := by omega
      subst hz
      have hf := fit_of (p := 1) (by omega) (by omega) q0 q1
      refine ⟨0, ?_, false, 0, 0, by decide +kernel, by decide +kernel, by rfl⟩
      have h0 : floatOfInt .f64 0 = 0 := by decide +kernel
      have hr0 : double.read 0 = .number false 0 (-1074) := by decide +kernel
      have hq := sig_rng hf.q0 (by have := hf.ql; omega)
      unfold Format.div
      rw [h0, hr0, read_int false hf.q0 (by have := hf.ql; omega)]
      unfold Datum.quotient
      simp only
      rw [if_neg (show ¬ sig q.toNat = 0 by omega)]
      have e0 : ∀ k : Nat, (0 : Nat) <<< k = 0 := fun k => by rw [Nat.shiftLeft_eq, Nat.zero_mul]
      rw [e0, Nat.zero_div, Nat.zero_mod]
      simp only [Option.map_some, Format.write]
      unfold Format.nearest
      rfl
theorem worth_mono {p r : Int} {q : Int} (hp : -1099511627776 < p) (hr : r < 1099511627776) (q0 : 0 < q) (q1 : q < 1048576) (h : p ≤ r) : worth p q.toNat ≤ worth r q.toNat := by
  have vp := fun n => val_pos n
  unfold worth
  by_cases a : 0 < p
  · rw [if_pos a, if_pos (by omega)]
    have f1 := fit_of a (by omega) q0 q1
    have f2 := fit_of (p := r) (by omega) hr q0 q1
    have := val_mono (rung_rng f1).1 (rung_mono f1 f2 (by omega))
    omega
  · rw [if_neg a]
    by_cases b : p < 0
    · rw [if_pos b]
      by_cases c : 0 < r
      · rw [if_pos c]; omega
      · rw [if_neg c]
        by_cases d : r < 0
        · rw [if_pos d]
          have f1 := fit_of (p := -r) (by omega) (by omega) q0 q1
          have f2 := fit_of (p := -p) (by omega) (by omega) q0 q1
          have := val_mono (rung_rng f1).1 (rung_mono f1 f2 (by omega))
          omega
        · rw [if_neg d]; omega
    · rw [if_neg b]
      by_cases c : 0 < r
      · rw [if_pos c]; omega
      · rw [if_neg c, if_neg (by omega)]; omega
theorem worth_neg (p : Int) (q : Nat) : worth (-p) q = -worth p q := by
  unfold worth
  rcases Int.lt_trichotomy p 0 with h | h | h
  · rw [if_pos (show 0 < -p by omega), if_neg (show ¬ 0 < p by omega), if_pos h]; omega
  · subst h; rfl
  · rw [if_neg (show ¬ 0 < -p by omega), if_pos (show -p < 0 by omega), if_pos h, Int.neg_neg]
theorem worth_sign (p : Int) (q : Nat) : (0 < worth p q ↔ 0 < p) ∧ (worth p q < 0 ↔ p < 0) := by
  have vp := fun n => val_pos n
  unfold worth
  have a1 := vp (rung p.toNat q)
  have a2 := vp (rung (-p).toNat q)
  rcases Int.lt_trichotomy p 0 with h | h | h
  · rw [if_neg (show ¬ 0 < p by omega), if_pos h]; omega
  · subst h; rw [if_neg (by decide), if_neg (by decide)]; omega
  · rw [if_pos h]; omega
/-- The floats rise with the upper numbers. -/
theorem quo_rise {p r q : Int} (hp : -1099511627776 < p ∧ p < 1099511627776) (hr : -1099511627776 < r ∧ r < 1099511627776) (q0 : 0 < q) (q1 : q < 1048576) (h : p ≤ r) : ∃ v w, quo64 p q = some v ∧ quo64 r q = some w ∧ (FloatKind.f64.format.order v w == some .lt || FloatKind.f64.format.order v w == some .eq) = true := by
  obtain ⟨v, hv, s, m, a, r1, _, e1⟩ := quo_val hp q0 q1
  obtain ⟨w, hw, t, n, b, r2, _, e2⟩ := quo_val hr q0 q1
  refine ⟨v, w, hv, hw, ?_⟩
  have ho : FloatKind.f64.format.order v w = some (compare (worth p q.toNat) (worth r q.toNat)) := by
    show (double.read v).order (double.read w) = _
    rw [r1, r2, ord_gen, e1, e2]
  rw [ho]
  have hm := worth_mono hp.1 hr.2 q0 q1 h
  rcases Int.lt_or_eq_of_le hm with hl | hl
  · rw [cmp_lt hl]; rfl
  · rw [hl, cmp_eq]; rfl
/-- Turned round, a float is its opposite; its sign is the upper number's. -/
theorem quo_turn {p q : Int} (hp : -1099511627776 < p ∧ p < 1099511627776) (q0 : 0 < q) (q1 : q < 1048576) : ∃ v w, quo64 p q = some v ∧ quo64 (-p) q = some w ∧ FloatKind.f64.format.order v (Go.Op.negFloat .f64 w) = some .eq ∧ (FloatKind.f64.format.order v 0 == some .gt) = decide (0 < p) ∧ (FloatKind.f64.format.order v 0 == some .lt) = decide (p < 0) := by
  obtain ⟨v, hv, s, m, a, r1, _, e1⟩ := quo_val hp q0 q1
  obtain ⟨w, hw, t, n, b, _, r2, e2⟩ := quo_val (p := -p) (by omega) q0 q1
  have hz : double.read 0 = .number false 0 (-1074 + ((0 : Nat) : Int)) := by decide +kernel
  have ho0 : FloatKind.f64.format.order v 0 = some (compare (worth p q.toNat) 0) := by
    show (double.read v).order (double.read 0) = _
    rw [r1, hz, ord_gen, e1]; rfl
  refine ⟨v, w, hv, hw, ?_, ?_, ?_⟩
  · show (double.read v).order (double.read (Go.Op.negFloat .f64 w)) = _
    have hs : sgn (!t) (n * 2 ^ b) = worth p q.toNat := by
      have : sgn (!t) (n * 2 ^ b) = -sgn t (n * 2 ^ b) := by unfold sgn; cases t <;> simp
      rw [this, e2, worth_neg, Int.neg_neg]
    rw [r1, r2, ord_gen, e1, hs, cmp_eq]
  · rw [ho0]
    have := worth_sign p q.toNat
    rcases Int.lt_trichotomy (worth p q.toNat) 0 with h | h | h
    · rw [cmp_lt h, decide_eq_false (by omega)]; rfl
    · rw [h, cmp_eq, decide_eq_false (by omega)]; rfl
    · rw [cmp_gt h, decide_eq_true (by omega)]; rfl
  · rw [ho0]
    have := worth_sign p q.toNat
    rcases Int.lt_trichotomy (worth p q.toNat) 0 with h | h | h
    · rw [cmp_lt h, decide_eq_true (by omega)]; rfl
    · rw [h, cmp_eq, decide_eq_false (by omega)]; rfl
    · rw [cmp_gt h, decide_eq_false (by omega)]; rfl
end Go.Proofs.Ytoncignjcgjhhaa.FQ
