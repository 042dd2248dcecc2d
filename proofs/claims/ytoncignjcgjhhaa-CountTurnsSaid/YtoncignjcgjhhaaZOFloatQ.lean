/- The float next to a quotient of two whole numbers: its sign, and that it rises with the upper one. Conditions: the upper number is below 2^40, the lower one positive and below 2^20. -/
import Derived.Laws.FloatArith
import Derived.Test.YtoncignjcgjhhaaZO
set_option linter.unusedVariables false
set_option linter.unusedSimpArgs false
namespace Go.Proofs.Ytoncignjcgjhhaa.FQ
open Ieee
theorem c_lp : double.leastPlace = -1074 := by decide
theorem c_bin : double.binade = 4503599627370496 := by decide
theorem c_inf : double.infRung = 9218868437227405312 := by decide
theorem c_sw : double.signWeight = 9223372036854775808 := by decide
theorem c_fb : double.fractionBits = 52 := rfl
theorem log_eq {n k : Nat} (h0 : 2 ^ k ≤ n) (h1 : n < 2 ^ (k + 1)) : n.log2 = k := by
  have hn : n ≠ 0 := by have := Nat.two_pow_pos k; omega
  have a := (Nat.le_log2 hn).2 h0
  have b := (Nat.log2_lt hn).2 h1
  omega
theorem log_rng {n : Nat} (h : n ≠ 0) : 2 ^ n.log2 ≤ n ∧ n < 2 ^ (n.log2 + 1) := ⟨(Nat.le_log2 h).1 (Nat.le_refl _), (Nat.log2_lt h).1 (Nat.lt_succ_self _)⟩
/-- A number's significand of 53 digits. -/
def sig (n : Nat) : Nat := n * 2 ^ (52 - n.log2)
theorem sig_rng {n : Nat} (h : n ≠ 0) (hl : n.log2 ≤ 52) : 4503599627370496 ≤ sig n ∧ sig n < 9007199254740992 := by
  obtain ⟨a, b⟩ := log_rng h
  have hp : 2 ^ n.log2 * 2 ^ (52 - n.log2) = 2 ^ 52 := by rw [← Nat.pow_add]; congr 1; omega
  have hp2 : 2 ^ (n.log2 + 1) * 2 ^ (52 - n.log2) = 2 ^ 53 := by rw [← Nat.pow_add]; congr 1; omega
  have h1 := Nat.mul_le_mul_right (2 ^ (52 - n.log2)) a
  have h2 := Nat.mul_lt_mul_of_pos_right b (Nat.two_pow_pos (52 - n.log2))
  rw [hp] at h1
  rw [hp2] at h2
  unfold sig
  exact ⟨h1, h2⟩
theorem cut0 (neg : Bool) (n : Nat) : Toward.even.cut neg n 0 = n := by
  unfold Toward.cut
  simp [Nat.mod_one]
def c2 (n : Nat) : Nat := if 4 < 2 * (n % 4) ∨ (4 = 2 * (n % 4) ∧ n / 4 % 2 = 1) then n / 4 + 1 else n / 4
def c3 (n : Nat) : Nat := if 8 < 2 * (n % 8) ∨ (8 = 2 * (n % 8) ∧ n / 8 % 2 = 1) then n / 8 + 1 else n / 8
theorem cut2 (neg : Bool) (n : Nat) : Toward.even.cut neg n 2 = c2 n := by
  unfold Toward.cut c2
  rw [Nat.min_eq_left (by omega)]
  simp only [show (1 <<< 2 : Nat) = 4 from rfl]
  by_cases h : 4 < 2 * (n % 4) ∨ (4 = 2 * (n % 4) ∧ n / 4 % 2 = 1)
  · rw [if_pos h]
    have : (decide (4 < 2 * (n % 4)) || 4 == 2 * (n % 4) && n / 4 % 2 == 1) = true := by simpa using h
    rw [this]; rfl
  · rw [if_neg h]
    have : (decide (4 < 2 * (n % 4)) || 4 == 2 * (n % 4) && n / 4 % 2 == 1) = false := by rw [Bool.eq_false_iff]; intro e; exact h (by simpa using e)
    rw [this]; rfl
theorem cut3 (neg : Bool) {n : Nat} (hn : 2 ≤ n) : Toward.even.cut neg n 3 = c3 n := by
  have hl : 1 ≤ n.log2 := (Nat.le_log2 (by omega)).2 (by omega)
  unfold Toward.cut c3
  rw [Nat.min_eq_left (by omega)]
  simp only [show (1 <<< 3 : Nat) = 8 from rfl]
  by_cases h : 8 < 2 * (n % 8) ∨ (8 = 2 * (n % 8) ∧ n / 8 % 2 = 1)
  · rw [if_pos h]
    have : (decide (8 < 2 * (n % 8)) || 8 == 2 * (n % 8) && n / 8 % 2 == 1) = true := by simpa using h
    rw [this]; rfl
  · rw [if_neg h]
    have : (decide (8 < 2 * (n % 8)) || 8 == 2 * (n % 8) && n / 8 % 2 == 1) = false := by rw [Bool.eq_false_iff]; intro e; exact h (by simpa using e)
    rw [this]; rfl
def sticky (n : Nat) : Nat := 2 * (n / 4) + (if n % 4 = 0 then 0 else 1)
theorem c3_sticky (n : Nat) : c3 n = c2 (sticky n) := by
  unfold c3 c2 sticky
  by_cases h4 : n % 4 = 0
  · rw [if_pos h4]; split <;> split <;> omega
  · rw [if_neg h4]; split <;> split <;> omega
theorem c2_mono {m n : Nat} (h : m ≤ n) : c2 m ≤ c2 n := by unfold c2; split <;> split <;> omega
theorem c3_mono {m n : Nat} (h : m ≤ n) : c3 m ≤ c3 n := by unfold c3; split <;> split <;> omega
/-- The quotient with a digit for what is left over. -/
def mag (x d : Nat) : Nat := 2 * (x / d) + (if x % d = 0 then 0 else 1)
theorem mag_even {x d a : Nat} (hd : 0 < d) : 2 * a ≤ mag x d ↔ a * d ≤ x := by
  rw [← Nat.le_div_iff_mul_le hd]
  unfold mag; split <;> omega
theorem mag_odd {x d a : Nat} (hd : 0 < d) : 2 * a + 1 ≤ mag x d ↔ a * d < x := by
  have hdm := Nat.div_add_mod x d
  have hml := Nat.mod_lt x hd
  constructor
  · intro h
    by_cases hlt : a < x / d
    · have h1 := (Nat.le_div_iff_mul_le hd).1 (show a + 1 ≤ x / d by omega)
      rw [Nat.add_mul, Nat.one_mul] at h1; omega
    · have he : a = x / d := by unfold mag at h; split at h <;> omega
      have hr : x % d ≠ 0 := by intro h0; unfold mag at h; rw [if_pos h0] at h; omega
      rw [he, Nat.mul_comm]; omega
  · intro h
    have h1 : a ≤ x / d := (Nat.le_div_iff_mul_le hd).2 (by omega)
    unfold mag
    by_cases hlt : a < x / d
    · omega
    · have he : a = x / d := by omega
      rw [he, Nat.mul_comm] at h
      rw [if_neg (by omega)]; omega
theorem mag_mono {x y d : Nat} (hd : 0 < d) (h : x ≤ y) : mag x d ≤ mag y d := by
  rcases Nat.mod_two_eq_zero_or_one (mag x d) with e | e
  · have h1 := (mag_even (x := x) (a := mag x d / 2) hd).1 (by omega)
    have := (mag_even (x := y) (a := mag x d / 2) hd).2 (by omega)
    omega
  · have h1 := (mag_odd (x := x) (a := mag x d / 2) hd).1 (by omega)
    have := (mag_odd (x := y) (a := mag x d / 2) hd).2 (by omega)
    omega
theorem sticky_mag {x y d : Nat} (hd : 0 < d) (h : x ≤ 2 * y) : sticky (mag x d) ≤ mag y d := by
  unfold sticky
  by_cases h4 : mag x d % 4 = 0
  · rw [if_pos h4]
    have h1 := (mag_even (x := x) (a := 2 * (mag x d / 4)) hd).1 (by omega)
    have := (mag_even (x := y) (a := mag x d / 4) hd).2 (by rw [Nat.mul_assoc] at h1; omega)
    omega
  · rw [if_neg h4]
    have h1 := (mag_odd (x := x) (a := 2 * (mag x d / 4)) hd).1 (by omega)
    have := (mag_odd (x := y) (a := mag x d / 4) hd).2 (by rw [Nat.mul_assoc] at h1; omega)
    omega
/-- The rung of p/q. -/
def rung (p q : Nat) : Nat :=
  if sig p < sig q then (p.log2 + 1021 - q.log2) * 4503599627370496 + c2 (mag (sig p * 18014398509481984) (sig q))
  else (p.log2 + 1021 - q.log2 + 1) * 4503599627370496 + c3 (mag (sig p * 18014398509481984) (sig q))
theorem mag_lo {p q : Nat} (hp : 4503599627370496 ≤ p ∧ p < 9007199254740992) (hq : 4503599627370496 ≤ q ∧ q < 9007199254740992) (h : p < q) : 18014398509481984 ≤ mag (p * 18014398509481984) q ∧ mag (p * 18014398509481984) q < 36028797018963968 := by
  constructor
  · have := (mag_even (x := p * 18014398509481984) (d := q) (a := 9007199254740992) (by omega)).2 (by omega)
    omega
  · refine Nat.lt_of_not_le (fun hc => ?_)
    have := (mag_even (x := p * 18014398509481984) (d := q) (a := 18014398509481984) (by omega)).1 (by omega)
    omega
theorem mag_hi {p q : Nat} (hp : 4503599627370496 ≤ p ∧ p < 9007199254740992) (hq : 4503599627370496 ≤ q ∧ q < 9007199254740992) (h : ¬ p < q) : 36028797018963968 ≤ mag (p * 18014398509481984) q ∧ mag (p * 18014398509481984) q < 72057594037927936 := by
  constructor
  · have := (mag_even (x := p * 18014398509481984) (d := q) (a := 18014398509481984) (by omega)).2 (by omega)
    omega
  · refine Nat.lt_of_not_le (fun hc => ?_)
    have := (mag_even (x := p * 18014398509481984) (d := q) (a := 36028797018963968) (by omega)).1 (by omega)
    omega
theorem c2_rng {n : Nat} (h : 18014398509481984 ≤ n ∧ n < 36028797018963968) : 4503599627370496 ≤ c2 n ∧ c2 n ≤ 9007199254740992 := by unfold c2; split <;> omega
theorem c3_rng {n : Nat} (h : 36028797018963968 ≤ n ∧ n < 72057594037927936) : 4503599627370496 ≤ c3 n ∧ c3 n ≤ 9007199254740992 := by unfold c3; split <;> omega
structure Fit (p q : Nat) : Prop where
  p0 : p ≠ 0
  pl : p.log2 ≤ 40
  q0 : q ≠ 0
  ql : q.log2 ≤ 20
theorem rung_rng {p q : Nat} (h : Fit p q) : 4503599627370496 ≤ rung p q ∧ rung p q < 9218868437227405312 := by
  have hp := sig_rng h.p0 (by have := h.pl; omega)
  have hq := sig_rng h.q0 (by have := h.ql; omega)
  have h1 := h.pl
  have h2 := h.ql
  unfold rung
  split
  · rename_i hlt
    have := c2_rng (mag_lo hp hq hlt); omega
  · rename_i hlt
    have := c3_rng (mag_hi hp hq hlt); omega
theorem rung_mono {p r q : Nat} (h1 : Fit p q) (h2 : Fit r q) (h : p ≤ r) : rung p q ≤ rung r q := by
  have hp := sig_rng h1.p0 (by have := h1.pl; omega)
  have hr := sig_rng h2.p0 (by have := h2.pl; omega)
  have hq := sig_rng h1.q0 (by have := h1.ql; omega)
  have hql := h1.ql
  have hpl := h1.pl
  have hrl := h2.pl
  have hlog : p.log2 ≤ r.log2 := (Nat.le_log2 h2.p0).2 (Nat.le_trans (log_rng h1.p0).1 h)
  unfold rung
  by_cases heq : p.log2 = r.log2
  · have hs : sig p ≤ sig r := by unfold sig; rw [heq]; exact Nat.mul_le_mul_right _ h
    have hm := mag_mono (x := sig p * 18014398509481984) (y := sig r * 18014398509481984) (d := sig q) (by omega) (by omega)
    rw [heq]
    by_cases a : sig p < sig q
    · rw [if_pos a]
      have g1 := c2_rng (mag_lo hp hq a)
      by_cases b : sig r < sig q
      · rw [if_pos b]; have := c2_mono hm; omega
      · rw [if_neg b]; have := c3_rng (mag_hi hr hq b); omega
    · rw [if_neg a, if_neg (show ¬ sig r < sig q by omega)]; have := c3_mono hm; omega
  · by_cases a : sig p < sig q
    · rw [if_pos a]
      have g1 := c2_rng (mag_lo hp hq a)
      by_cases b : sig r < sig q
      · rw [if_pos b]; have := c2_rng (mag_lo hr hq b); omega
      · rw [if_neg b]; have := c3_rng (mag_hi hr hq b); omega
    · rw [if_neg a]
      have g1 := c3_rng (mag_hi hp hq a)
      by_cases b : sig r < sig q
      · rw [if_pos b]
        have g2 := c2_rng (mag_lo hr hq b)
        by_cases hn : r.log2 = p.log2 + 1
        · have hs : sig p ≤ 2 * sig r := by
            unfold sig
            have e : 52 - p.log2 = (52 - r.log2) + 1 := by omega
            rw [e, Nat.pow_succ]
            have := Nat.mul_le_mul_right (2 ^ (52 - r.log2)) h
            rw [← Nat.mul_assoc]; omega
          have hm := sticky_mag (x := sig p * 18014398509481984) (y := sig r * 18014398509481984) (d := sig q) (by omega) (by omega)
          have := c2_mono hm
          rw [c3_sticky]; omega
        · omega
      · rw [if_neg b]; have := c3_rng (mag_hi hr hq b); omega
end Go.Proofs.Ytoncignjcgjhhaa.FQ
