/- Floats next to quotients of whole numbers, compared: they stand to each other as the upper numbers, and turn their sign with them. Conditions: the upper number is below 2^40, the lower one positive and below 2^20. -/
import Derived.Test.YtoncignjcgjhhaaZOFloatQ
import Derived.Test.YtoncignjcgjhhaaZO
set_option linter.unusedVariables false
set_option linter.unusedSimpArgs false
namespace Go.Proofs.Ytoncignjcgjhhaa.FQ
open Ieee
theorem near_int (neg : Bool) {n : Nat} (h : n ≠ 0) (hl : n.log2 ≤ 40) : double.nearest neg n 0 = double.word neg ((n.log2 + 1022) * 4503599627370496 + sig n) := by
  have hs := sig_rng h (by omega)
  unfold Format.nearest
  rw [if_neg h]
  simp only [c_lp, c_fb, c_bin, c_inf]
  have e1 : max (0 + (n.log2 : Int) - ((52 : Nat) : Int)) (-1074) = (n.log2 : Int) - 52 := by rw [Int.max_eq_left (by omega)]; omega
  rw [e1, show ((n.log2 : Int) - 52 - -1074).toNat = n.log2 + 1022 by omega, show (0 - ((n.log2 : Int) - 52)).toNat = 52 - n.log2 by omega, show ((n.log2 : Int) - 52 - 0).toNat = 0 by omega, cut0, Nat.shiftLeft_eq]
  show double.word neg (min ((n.log2 + 1022) * 4503599627370496 + sig n) 9218868437227405312) = _
  rw [Nat.min_eq_left (by omega)]
theorem read_word (s : Bool) {r : Nat} (h0 : 4503599627370496 ≤ r) (h1 : r < 9218868437227405312) : double.read (double.word s r) = .number s (4503599627370496 + r % 4503599627370496) (-1074 + ((r / 4503599627370496 - 1 : Nat) : Int)) := by
  have e1 : (double.word s r / 9223372036854775808 % 2 == 1) = s := by
    unfold Format.word
    cases s with
    | true => rw [if_pos rfl, c_sw]; rw [beq_iff_eq]; omega
    | false => rw [if_neg (by decide), beq_eq_false_iff_ne]; omega
  have e2 : double.word s r % 9223372036854775808 = r := by
    unfold Format.word
    cases s with
    | true => rw [if_pos rfl, c_sw]; omega
    | false => rw [if_neg (by decide)]; omega
  unfold Format.read
  simp only [c_sw, c_bin, c_inf, c_lp, e1, e2]
  rw [if_neg (by omega), if_pos h1]
theorem read_int (s : Bool) {n : Nat} (h : n ≠ 0) (hl : n.log2 ≤ 40) : double.read (double.nearest s n 0) = .number s (sig n) ((n.log2 : Int) - 52) := by
  have hs := sig_rng h (by omega)
  rw [near_int s h hl, read_word s (by omega) (by omega)]
  congr 1 <;> omega
theorem mag_log {p q : Nat} (h : Fit p q) : (mag (sig p * 18014398509481984) (sig q)).log2 = if sig p < sig q then 54 else 55 := by
  have hp := sig_rng h.p0 (by have := h.pl; omega)
  have hq := sig_rng h.q0 (by have := h.ql; omega)
  split
  · rename_i a; have := mag_lo hp hq a; exact log_eq this.1 this.2
  · rename_i a; have := mag_hi hp hq a; exact log_eq this.1 this.2
theorem near_mag (s : Bool) {p q : Nat} (h : Fit p q) : double.nearest s (mag (sig p * 18014398509481984) (sig q)) ((p.log2 : Int) - q.log2 - 55) = double.word s (rung p q) := by
  have hp := sig_rng h.p0 (by have := h.pl; omega)
  have hq := sig_rng h.q0 (by have := h.ql; omega)
  have hpl := h.pl
  have hql := h.ql
  have hlog := mag_log h
  have hr := rung_rng h
  by_cases a : sig p < sig q
  · rw [if_pos a] at hlog
    have hm := mag_lo hp hq a
    unfold rung at hr ⊢
    rw [if_pos a] at hr ⊢
    unfold Format.nearest
    rw [if_neg (by omega), hlog]
    simp only [c_lp, c_fb, c_bin, c_inf]
    have e1 : max ((p.log2 : Int) - q.log2 - 55 + ((54 : Nat) : Int) - ((52 : Nat) : Int)) (-1074) = (p.log2 : Int) - q.log2 - 53 := by rw [Int.max_eq_left (by omega)]; omega
    rw [e1, show ((p.log2 : Int) - q.log2 - 53 - -1074).toNat = p.log2 + 1021 - q.log2 by omega, show ((p.log2 : Int) - q.log2 - 55 - ((p.log2 : Int) - q.log2 - 53)).toNat = 0 by omega, show ((p.log2 : Int) - q.log2 - 53 - ((p.log2 : Int) - q.log2 - 55)).toNat = 2 by omega, cut2, Nat.shiftLeft_zero]
    rw [Nat.min_eq_left (by omega)]
  · rw [if_neg a] at hlog
    have hm := mag_hi hp hq a
    unfold rung at hr ⊢
    rw [if_neg a] at hr ⊢
    unfold Format.nearest
    rw [if_neg (by omega), hlog]
    simp only [c_lp, c_fb, c_bin, c_inf]
    have e1 : max ((p.log2 : Int) - q.log2 - 55 + ((55 : Nat) : Int) - ((52 : Nat) : Int)) (-1074) = (p.log2 : Int) - q.log2 - 52 := by rw [Int.max_eq_left (by omega)]; omega
    rw [e1, show ((p.log2 : Int) - q.log2 - 52 - -1074).toNat = p.log2 + 1021 - q.log2 + 1 by omega, show ((p.log2 : Int) - q.log2 - 55 - ((p.log2 : Int) - q.log2 - 52)).toNat = 0 by omega, show ((p.log2 : Int) - q.log2 - 52 - ((p.log2 : Int) - q.log2 - 55)).toNat = 3 by omega, Nat.shiftLeft_zero, cut3 s (by omega)]
    rw [Nat.min_eq_left (by omega)]
theorem div_nat (s : Bool) {p q : Nat} (h : Fit p q) : double.div (double.nearest s p 0) (double.nearest false q 0) = some (double.word s (rung p q)) := by
  have hp := sig_rng h.p0 (by have := h.pl; omega)
  have hq := sig_rng h.q0 (by have := h.ql; omega)
  have lp := log_eq (k := 52) hp.1 hp.2
  have lq := log_eq (k := 52) hq.1 hq.2
  unfold Format.div
  rw [read_int s h.p0 h.pl, read_int false h.q0 (by have := h.ql; omega)]
  unfold Datum.quotient
  simp only
  rw [if_neg (show ¬ sig q = 0 by omega), lp, lq, c_fb]
  simp only [Option.map_some, Format.write]
  rw [show 52 + 2 + 52 - 52 = 54 from rfl, Nat.shiftLeft_eq, show (2 : Nat) ^ 54 = 18014398509481984 from rfl]
  have e1 : 2 * (sig p * 18014398509481984 / sig q) + (sig p * 18014398509481984 % sig q != 0).toNat = mag (sig p * 18014398509481984) (sig q) := by
    unfold mag
    by_cases h0 : sig p * 18014398509481984 % sig q = 0
    · rw [if_pos h0, h0]; rfl
    · rw [if_neg h0, bne_iff_ne.2 h0]; rfl
  rw [e1, show (p.log2 : Int) - 52 - ((q.log2 : Int) - 52) - ((54 : Nat) : Int) - 1 = (p.log2 : Int) - q.log2 - 55 by omega, Bool.xor_false, near_mag s h]
/-! Order -/
def sgn (s : Bool) (x : Nat) : Int := if s = true then -(x : Int) else (x : Int)
theorem cmp_lt {x y : Int} (h : x < y) : compare x y = .lt := by show compareOfLessAndEq x y = _; unfold compareOfLessAndEq; rw [if_pos h]
theorem cmp_eq (x : Int) : compare x x = .eq := by show compareOfLessAndEq x x = _; unfold compareOfLessAndEq; rw [if_neg (by omega), if_pos rfl]
theorem cmp_gt {x y : Int} (h : y < x) : compare x y = .gt := by show compareOfLessAndEq x y = _; unfold compareOfLessAndEq; rw [if_neg (by omega), if_neg (by omega)]
theorem cmp_mul (x y k : Int) (hk : 0 < k) : compare (x * k) (y * k) = compare x y := by
  rcases Int.lt_trichotomy x y with h | h | h
  · rw [cmp_lt h, cmp_lt (Int.mul_lt_mul_of_pos_right h hk)]
  · rw [h, cmp_eq, cmp_eq]
  · rw [cmp_gt h, cmp_gt (Int.mul_lt_mul_of_pos_right h hk)]
theorem sgn_mul (s : Bool) (x k : Nat) : sgn s (x * k) = sgn s x * (k : Int) := by
  unfold sgn; split
  · rw [Int.neg_mul]; push_cast; rfl
  · push_cast; rfl
theorem ord_gen (s t : Bool) (m n a b : Nat) : Datum.order (.number s m (-1074 + (a : Int))) (.number t n (-1074 + (b : Int))) = some (compare (sgn s (m * 2 ^ a)) (sgn t (n * 2 ^ b))) := by
  unfold Datum.order
  simp only
  have key : ∀ c : Nat, c ≤ a → c ≤ b → min (-1074 + (a : Int)) (-1074 + (b : Int)) = -1074 + (c : Int) → some (compare (signed s m (-1074 + (a : Int) - min (-1074 + (a : Int)) (-1074 + (b : Int))).toNat) (signed t n (-1074 + (b : Int) - min (-1074 + (a : Int)) (-1074 + (b : Int))).toNat)) = some (compare (sgn s (m * 2 ^ a)) (sgn t (n * 2 ^ b))) := by
    intro c ca cb hc
    rw [hc, show (-1074 + (a : Int) - (-1074 + (c : Int))).toNat = a - c by omega, show (-1074 + (b : Int) - (-1074 + (c : Int))).toNat = b - c by omega]
    have ha : m * 2 ^ a = m * 2 ^ (a - c) * 2 ^ c := by rw [Nat.mul_assoc, ← Nat.pow_add]; congr 2; omega
    have hb : n * 2 ^ b = n * 2 ^ (b - c) * 2 ^ c := by rw [Nat.mul_assoc, ← Nat.pow_add]; congr 2; omega
    have hk : (0 : Int) < ((2 ^ c : Nat) : Int) := by have := Nat.two_pow_pos c; omega
    rw [ha, hb, sgn_mul s (m * 2 ^ (a - c)), sgn_mul t (n * 2 ^ (b - c)), cmp_mul _ _ _ hk]
    unfold signed sgn
    rw [Nat.shiftLeft_eq, Nat.shiftLeft_eq]
  by_cases h : a ≤ b
  · exact key a (Nat.le_refl _) h (Int.min_eq_left (by omega))
  · exact key b (by omega) (Nat.le_refl _) (Int.min_eq_right (by omega))
def val (r : Nat) : Nat := (4503599627370496 + r % 4503599627370496) * 2 ^ (r / 4503599627370496 - 1)
theorem val_pos (r : Nat) : 0 < val r := Nat.mul_pos (by omega) (Nat.two_pow_pos _)
theorem val_mono {r t : Nat} (h0 : 4503599627370496 ≤ r) (h : r ≤ t) : val r ≤ val t := by
  unfold val
  by_cases he : r / 4503599627370496 = t / 4503599627370496
  · rw [he]; exact Nat.mul_le_mul_right _ (by omega)
  · obtain ⟨k, hk⟩ : ∃ k, t / 4503599627370496 - 1 = (r / 4503599627370496 - 1) + (k + 1) := ⟨t / 4503599627370496 - 1 - (r / 4503599627370496 - 1) - 1, by omega⟩
    rw [hk, Nat.pow_add, ← Nat.mul_assoc, Nat.mul_right_comm]
    refine Nat.mul_le_mul_right _ ?_
    have h2 : 2 ≤ 2 ^ (k + 1) := by rw [Nat.pow_succ]; have := Nat.two_pow_pos k; omega
    have := Nat.mul_le_mul_left (4503599627370496 + t % 4503599627370496) h2
    omega
/-- What a quotient's float is worth, in units of the least place. -/
def worth (p : Int) (q : Nat) : Int := if 0 < p then (val (rung p.toNat q) : Int) else if p < 0 then -(val (rung (-p).toNat q) : Int) else 0
theorem neg_word (s : Bool) {r : Nat} (h : r < 9223372036854775808) : Go.Op.negFloat .f64 (double.word s r) = double.word (!s) r := by
  have hx : ∀ r : Nat, r < 9223372036854775808 → r ^^^ 2 ^ 63 = 2 ^ 63 + r := by
    intro r hr
    refine Nat.eq_of_testBit_eq (fun i => ?_)
    rw [Nat.testBit_xor, Nat.testBit_two_pow]
    rcases Nat.lt_trichotomy i 63 with hi | hi | hi
    · rw [Nat.testBit_two_pow_add_gt hi, decide_eq_false (show ¬ 63 = i by omega), Bool.xor_false]
    · subst hi; rw [Nat.testBit_two_pow_add_eq, decide_eq_true rfl, Bool.xor_true]
    · have h1 : 9223372036854775808 ≤ 2 ^ i := Nat.pow_le_pow_right (n := 2) (by decide) (show 63 ≤ i by omega)
      have h2 : 18446744073709551616 ≤ 2 ^ i := Nat.pow_le_pow_right (n := 2) (by decide) (show 64 ≤ i by omega)
      rw [Nat.testBit_lt_two_pow (show r < 2 ^ i by omega), Nat.testBit_lt_two_pow (show 2 ^ 63 + r < 2 ^ i by omega), decide_eq_false (show ¬ 63 = i by omega)]; rfl
  show double.word s r ^^^ 2 ^ 63 = _
  unfold Format.word
  rw [c_sw]
  cases s with
  | true =>
    rw [if_pos rfl, if_neg (by decide), show (9223372036854775808 : Nat) + r = r ^^^ 2 ^ 63 from (hx r h).symm, Nat.xor_assoc, Nat.xor_self, Nat.xor_zero]
  | false => rw [if_neg (by decide), if_pos (by decide), hx r h]
end Go.Proofs.Ytoncignjcgjhhaa.FQ
