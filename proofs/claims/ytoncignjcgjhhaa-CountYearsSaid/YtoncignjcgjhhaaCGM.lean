/- Contracts and facts of functions of the program (calendar, dates and their documents), joined in one text by a program of this session. No condition but what each theorem states. -/
import Derived.Test.YtoncignjcgjhhaaCGJ
import Derived.Laws.FloatArith
import Derived.Test.YtoncignjcgjhhaaCGL
import Derived.Test.YtoncignjcgjhhaaCGA
set_option linter.unusedVariables false
set_option linter.unusedSimpArgs false
namespace Go.Proofs.Ytoncignjcgjhhaa.Q
open Go.RowKit Go.Proofs.YtoncignjcgjhhaaW.PrintWords Go.Proofs.YtoncignjcgjhhaaW.PrintLast Go.Proofs.YtoncignjcgjhhaaW.PrintMore
def quo64 (p q : Int) : Option Nat := floatBits .quo .f64 (floatOfInt .f64 p) (floatOfInt .f64 q)
def xeC.f (k : Nat) (a0 : Int) (a1_0 : Int) (l1_1 : List (S63)) (a2 : Int) (a3 : Int) : Option (Nat × Int) := (xaZ.f k a0 a1_0 l1_1 a2 a3).bind fun bt => if bt.2.2 = 0 then (quo64 bt.1 bt.2.1).bind (fun x => some (x, 0)) else some (0, bt.2.2)
set_option maxHeartbeats 8000000 in
set_option maxRecDepth 100000 in
theorem xeC.calls (k : Nat) (a0 : Int) (a1_0 : Int) (A1_1 : Option Addr) (c1_1 : Nat) (l1_1 : List (S63)) (a2 : Int) (a3 : Int) (r1 : Nat) (r2 : Int) (w : World) (hr1_1 : Kd.C k63 w A1_1 l1_1.length l1_1) (hc1_1 : l1_1.length ≤ c1_1) (h : xeC.f k a0 a1_0 l1_1 a2 a3 = some (r1, r2)) :
  Calls Try.prog 29 #[.int .i64 a0, .agg #[.int .i64 a1_0, .slice A1_1 l1_1.length c1_1], .int .i64 a2, .int .i64 a3] w fun e w' => e = .returned (.tuple #[.float .f64 r1, .int .i64 r2]) ∧ Below w.heap.size w w' := by
 have hu24 := Try.underlying24;have HR1_1 := Aside0.mk hr1_1;have HC1_1 := Aside0.mk hc1_1;clear hr1_1 hc1_1
 have HB := Aside0.mk (Below.refl w.heap.size w)
 unfold xeC.f at h
 obtain ⟨⟨t1, t2, t3⟩, A20, H⟩ := Option.bind_eq_some_iff.mp h
 clear h;have A2 := Aside0.mk A20;clear A20
 replace H : (if t3 = 0 then (quo64 t1 t2).bind (fun x => some (x, 0)) else some (0, t3)) = some (r1, r2) := H
 by_cases c3 : t3 = 0
 ·
  rw [if_pos c3] at H
  subst c3
  obtain ⟨x, hx, hq⟩ := Option.bind_eq_some_iff.mp H
  clear H
  simp only [Option.some.injEq, Prod.mk.injEq] at hq
  obtain ⟨rfl, rfl⟩ := hq
  have hop : ∀ t w, (binOp .quo t (.float .f64 (floatOfInt .f64 t1)) (.float .f64 (floatOfInt .f64 t2))).run Try.prog w = .ok (.float .f64 x) w := fun t w => run_float_arith w .quo t .f64 _ _ x hx
  clear hx
  go_enter Try.func29, Try.ntmps29
  go_wp2_with (first | ((with_reducible refine xbM (N := 5) rfl ?_); refine xbJ ?hg (N := 5) ?hd (cs := #[.int .i64 a1_0, .slice A1_1 l1_1.length c1_1]) (t := 24) ?hr ?_; (case hd => rfl); (case hg => rfl); (case hr => first | (go_simp; done) | (go_simp; rfl)); intro gb1 hg w6 hbox hb; have n0_ := Aside0.mk (xaP (by repeat (first | (with_reducible first | exact HB.out | apply xaB | apply xaA | apply xaC) | exact HB.out)) hb); have n1_ := Aside0.mk (hbox); clear HB; have HB := n0_; have BK1 := n1_; clear n0_ n1_; clear hb hbox hg; have hcz5_0 : w6.cell? ⟨gb1, 0, none⟩ = some (.int .i64 a1_0) := (xaE BK1.out 0).trans rfl; have hcz5_1 : w6.cell? ⟨gb1, 1, none⟩ = some (.slice A1_1 l1_1.length c1_1) := (xaE BK1.out 1).trans rfl; have hfz5_0 := xaD BK1.out 0; have hfz5_1 := xaD BK1.out 1) | (go_at_call 27; (with_reducible refine (xaZ.calls k a0 a1_0 _ _ l1_1 a2 a3 t1 t2 0 _ ?side1 ?side2 A2.out).mono ?_); (case side1 => repeat (first | exact (Kd.xbT HR1_1.out HB.out) | (with_reducible refine Kd.xbF ?_ _) | (with_reducible refine Kd.xbE ?_ _) | (with_reducible refine Kd.C_drew ?_))); (case side2 => exact HC1_1.out); rintro e w7 ⟨rfl, hb⟩; have n1_ := Aside0.mk (xaP (by repeat (first | (with_reducible first | exact HB.out | apply xaB | apply xaA | apply xaC) | exact HB.out)) hb); clear HB; have HB := n1_; clear n1_; (try clear hb)) | simp only [hop])
  go_ret2
  exact ⟨by first | rfl | (simp [xaL, xaK] <;> rfl), by repeat (first | (with_reducible first | exact HB.out | apply xaB | apply xaA | apply xaC) | exact HB.out)⟩
 ·
  rw [if_neg c3] at H
  simp only [Option.some.injEq, Prod.mk.injEq] at H
  obtain ⟨rfl, rfl⟩ := H
  have c3b0 : (t3 == 0) = false := beq_eq_false_iff_ne.mpr c3
  have c3b1 : (t3 != 0) = true := bne_iff_ne.mpr c3
  go_enter Try.func29, Try.ntmps29
  go_wp2_with (first | ((with_reducible refine xbM (N := 5) rfl ?_); refine xbJ ?hg (N := 5) ?hd (cs := #[.int .i64 a1_0, .slice A1_1 l1_1.length c1_1]) (t := 24) ?hr ?_; (case hd => rfl); (case hg => rfl); (case hr => first | (go_simp; done) | (go_simp; rfl)); intro gb1 hg w6 hbox hb; have n0_ := Aside0.mk (xaP (by repeat (first | (with_reducible first | exact HB.out | apply xaB | apply xaA | apply xaC) | exact HB.out)) hb); have n1_ := Aside0.mk (hbox); clear HB; have HB := n0_; have BK1 := n1_; clear n0_ n1_; clear hb hbox hg; have hcz5_0 : w6.cell? ⟨gb1, 0, none⟩ = some (.int .i64 a1_0) := (xaE BK1.out 0).trans rfl; have hcz5_1 : w6.cell? ⟨gb1, 1, none⟩ = some (.slice A1_1 l1_1.length c1_1) := (xaE BK1.out 1).trans rfl; have hfz5_0 := xaD BK1.out 0; have hfz5_1 := xaD BK1.out 1) | (go_at_call 27; (with_reducible refine (xaZ.calls k a0 a1_0 _ _ l1_1 a2 a3 t1 t2 t3 _ ?side1 ?side2 A2.out).mono ?_); (case side1 => repeat (first | exact (Kd.xbT HR1_1.out HB.out) | (with_reducible refine Kd.xbF ?_ _) | (with_reducible refine Kd.xbE ?_ _) | (with_reducible refine Kd.C_drew ?_))); (case side2 => exact HC1_1.out); rintro e w7 ⟨rfl, hb⟩; have n1_ := Aside0.mk (xaP (by repeat (first | (with_reducible first | exact HB.out | apply xaB | apply xaA | apply xaC) | exact HB.out)) hb); clear HB; have HB := n1_; clear n1_; (try clear hb)))
  go_ret2
  exact ⟨by first | rfl | (simp [xaL, xaK] <;> rfl), by repeat (first | (with_reducible first | exact HB.out | apply xaB | apply xaA | apply xaC) | exact HB.out)⟩
end Go.Proofs.Ytoncignjcgjhhaa.Q
namespace Go.Proofs.Ytoncignjcgjhhaa.FQ
open Ieee
theorem c_lp : double.leastPlace = -1074 := by decide
theorem c_bin : double.binade = 4503599627370496 := by decide
theorem c_inf : double.infRung = 9218868437227405312 := by decide
theorem c_sw : double.signWeight = 9223372036854775808 := by decide
theorem c_fb : double.fractionBits = 52 := rfl
theorem log_eq {n k : Nat} (h0 : 2 ^ k ≤ n) (h1 : n < 2 ^ (k + 1)) : n.log2 = k := by
 have hn : n ≠ 0 := by have := Nat.two_pow_pos k; omega
 have a := (Nat.le_log2 hn).2 h0
 have b := (Nat.log2_lt hn).2 h1
 omega
theorem log_rng {n : Nat} (h : n ≠ 0) : 2 ^ n.log2 ≤ n ∧ n < 2 ^ (n.log2 + 1) := ⟨(Nat.le_log2 h).1 (Nat.le_refl _), (Nat.log2_lt h).1 (Nat.lt_succ_self _)⟩
def sig (n : Nat) : Nat := n * 2 ^ (52 - n.log2)
theorem xfG {n : Nat} (h : n ≠ 0) (hl : n.log2 ≤ 52) : 4503599627370496 ≤ sig n ∧ sig n < 9007199254740992 := by
 obtain ⟨a, b⟩ := log_rng h
 have hp : 2 ^ n.log2 * 2 ^ (52 - n.log2) = 2 ^ 52 := by rw [← Nat.pow_add]; congr 1; omega
 have hp2 : 2 ^ (n.log2 + 1) * 2 ^ (52 - n.log2) = 2 ^ 53 := by rw [← Nat.pow_add]; congr 1; omega
 have h1 := Nat.mul_le_mul_right (2 ^ (52 - n.log2)) a
 have h2 := Nat.mul_lt_mul_of_pos_right b (Nat.two_pow_pos (52 - n.log2))
 rw [hp] at h1
 rw [hp2] at h2
 unfold sig
 exact ⟨h1, h2⟩
theorem cut0 (neg : Bool) (n : Nat) : Toward.even.cut neg n 0 = n := by
  unfold Toward.cut
  simp [Nat.mod_one]
def c2 (n : Nat) : Nat := if 4 < 2 * (n % 4) ∨ (4 = 2 * (n % 4) ∧ n / 4 % 2 = 1) then n / 4 + 1 else n / 4
def c3 (n : Nat) : Nat := if 8 < 2 * (n % 8) ∨ (8 = 2 * (n % 8) ∧ n / 8 % 2 = 1) then n / 8 + 1 else n / 8
theorem cut2 (neg : Bool) (n : Nat) : Toward.even.cut neg n 2 = c2 n := by
 unfold Toward.cut c2
 rw [Nat.min_eq_left (by omega)]
 simp only [show (1 <<< 2 : Nat) = 4 from rfl]
 by_cases h : 4 < 2 * (n % 4) ∨ (4 = 2 * (n % 4) ∧ n / 4 % 2 = 1)
 ·
  rw [if_pos h]
  have : (decide (4 < 2 * (n % 4)) || 4 == 2 * (n % 4) && n / 4 % 2 == 1) = true := by simpa using h
  rw [this]; rfl
 ·
  rw [if_neg h]
  have : (decide (4 < 2 * (n % 4)) || 4 == 2 * (n % 4) && n / 4 % 2 == 1) = false := by rw [Bool.eq_false_iff]; intro e; exact h (by simpa using e)
  rw [this]; rfl
theorem cut3 (neg : Bool) {n : Nat} (hn : 2 ≤ n) : Toward.even.cut neg n 3 = c3 n := by
 have hl : 1 ≤ n.log2 := (Nat.le_log2 (by omega)).2 (by omega)
 unfold Toward.cut c3
 rw [Nat.min_eq_left (by omega)]
 simp only [show (1 <<< 3 : Nat) = 8 from rfl]
 by_cases h : 8 < 2 * (n % 8) ∨ (8 = 2 * (n % 8) ∧ n / 8 % 2 = 1)
 ·
  rw [if_pos h]
  have : (decide (8 < 2 * (n % 8)) || 8 == 2 * (n % 8) && n / 8 % 2 == 1) = true := by simpa using h
  rw [this]; rfl
 ·
  rw [if_neg h]
  have : (decide (8 < 2 * (n % 8)) || 8 == 2 * (n % 8) && n / 8 % 2 == 1) = false := by rw [Bool.eq_false_iff]; intro e; exact h (by simpa using e)
  rw [this]; rfl
def mag (x d : Nat) : Nat := 2 * (x / d) + (if x % d = 0 then 0 else 1)
theorem xhL {x d a : Nat} (hd : 0 < d) : 2 * a ≤ mag x d ↔ a * d ≤ x := by
  rw [← Nat.le_div_iff_mul_le hd]
  unfold mag; split <;> omega
def rung (p q : Nat) : Nat :=
  if sig p < sig q then (p.log2 + 1021 - q.log2) * 4503599627370496 + c2 (mag (sig p * 18014398509481984) (sig q))
  else (p.log2 + 1021 - q.log2 + 1) * 4503599627370496 + c3 (mag (sig p * 18014398509481984) (sig q))
theorem mag_lo {p q : Nat} (hp : 4503599627370496 ≤ p ∧ p < 9007199254740992) (hq : 4503599627370496 ≤ q ∧ q < 9007199254740992) (h : p < q) : 18014398509481984 ≤ mag (p * 18014398509481984) q ∧ mag (p * 18014398509481984) q < 36028797018963968 := by
 constructor
 ·
  have := (xhL (x := p * 18014398509481984) (d := q) (a := 9007199254740992) (by omega)).2 (by omega)
  omega
 ·
  refine Nat.lt_of_not_le (fun hc => ?_)
  have := (xhL (x := p * 18014398509481984) (d := q) (a := 18014398509481984) (by omega)).1 (by omega)
  omega
theorem mag_hi {p q : Nat} (hp : 4503599627370496 ≤ p ∧ p < 9007199254740992) (hq : 4503599627370496 ≤ q ∧ q < 9007199254740992) (h : ¬ p < q) : 36028797018963968 ≤ mag (p * 18014398509481984) q ∧ mag (p * 18014398509481984) q < 72057594037927936 := by
 constructor
 ·
  have := (xhL (x := p * 18014398509481984) (d := q) (a := 18014398509481984) (by omega)).2 (by omega)
  omega
 ·
  refine Nat.lt_of_not_le (fun hc => ?_)
  have := (xhL (x := p * 18014398509481984) (d := q) (a := 36028797018963968) (by omega)).1 (by omega)
  omega
theorem c2_rng {n : Nat} (h : 18014398509481984 ≤ n ∧ n < 36028797018963968) : 4503599627370496 ≤ c2 n ∧ c2 n ≤ 9007199254740992 := by unfold c2; split <;> omega
theorem c3_rng {n : Nat} (h : 36028797018963968 ≤ n ∧ n < 72057594037927936) : 4503599627370496 ≤ c3 n ∧ c3 n ≤ 9007199254740992 := by unfold c3; split <;> omega
structure Fit (p q : Nat) : Prop where
 p0 : p ≠ 0
 pl : p.log2 ≤ 40
 q0 : q ≠ 0
 ql : q.log2 ≤ 20
theorem rung_rng {p q : Nat} (h : Fit p q) : 4503599627370496 ≤ rung p q ∧ rung p q < 9218868437227405312 := by
 have hp := xfG h.p0 (by have := h.pl; omega)
 have hq := xfG h.q0 (by have := h.ql; omega)
 have h1 := h.pl;have h2 := h.ql
 unfold rung
 split
 ·
  rename_i hlt
  have := c2_rng (mag_lo hp hq hlt); omega
 ·
  rename_i hlt
  have := c3_rng (mag_hi hp hq hlt); omega
end Go.Proofs.Ytoncignjcgjhhaa.FQ
namespace Go.Proofs.Ytoncignjcgjhhaa.FQ
open Ieee
theorem near_int (neg : Bool) {n : Nat} (h : n ≠ 0) (hl : n.log2 ≤ 40) : double.nearest neg n 0 = double.word neg ((n.log2 + 1022) * 4503599627370496 + sig n) := by
 have hs := xfG h (by omega)
 unfold Format.nearest
 rw [if_neg h]
 simp only [c_lp, c_fb, c_bin, c_inf]
 have e1 : max (0 + (n.log2 : Int) - ((52 : Nat) : Int)) (-1074) = (n.log2 : Int) - 52 := by rw [Int.max_eq_left (by omega)]; omega
 rw [e1, show ((n.log2 : Int) - 52 - -1074).toNat = n.log2 + 1022 by omega, show (0 - ((n.log2 : Int) - 52)).toNat = 52 - n.log2 by omega, show ((n.log2 : Int) - 52 - 0).toNat = 0 by omega, cut0, Nat.shiftLeft_eq]
 show double.word neg (min ((n.log2 + 1022) * 4503599627370496 + sig n) 9218868437227405312) = _
 rw [Nat.min_eq_left (by omega)]
theorem read_word (s : Bool) {r : Nat} (h0 : 4503599627370496 ≤ r) (h1 : r < 9218868437227405312) : double.read (double.word s r) = .number s (4503599627370496 + r % 4503599627370496) (-1074 + ((r / 4503599627370496 - 1 : Nat) : Int)) := by
 have e1 : (double.word s r / 9223372036854775808 % 2 == 1) = s := by
  unfold Format.word
  cases s with
  | true => rw [if_pos rfl, c_sw]; rw [beq_iff_eq]; omega
  | false => rw [if_neg (by decide), beq_eq_false_iff_ne]; omega
 have e2 : double.word s r % 9223372036854775808 = r := by
  unfold Format.word
  cases s with
  | true => rw [if_pos rfl, c_sw]; omega
  | false => rw [if_neg (by decide)]; omega
 unfold Format.read
 simp only [c_sw, c_bin, c_inf, c_lp, e1, e2]
 rw [if_neg (by omega), if_pos h1]
theorem read_int (s : Bool) {n : Nat} (h : n ≠ 0) (hl : n.log2 ≤ 40) : double.read (double.nearest s n 0) = .number s (sig n) ((n.log2 : Int) - 52) := by
 have hs := xfG h (by omega)
 rw [near_int s h hl, read_word s (by omega) (by omega)]
 congr 1 <;> omega
theorem mag_log {p q : Nat} (h : Fit p q) : (mag (sig p * 18014398509481984) (sig q)).log2 = if sig p < sig q then 54 else 55 := by
 have hp := xfG h.p0 (by have := h.pl; omega)
 have hq := xfG h.q0 (by have := h.ql; omega)
 split
 ·
  rename_i a; have := mag_lo hp hq a; exact log_eq this.1 this.2
 ·
  rename_i a; have := mag_hi hp hq a; exact log_eq this.1 this.2
theorem near_mag (s : Bool) {p q : Nat} (h : Fit p q) : double.nearest s (mag (sig p * 18014398509481984) (sig q)) ((p.log2 : Int) - q.log2 - 55) = double.word s (rung p q) := by
 have hp := xfG h.p0 (by have := h.pl; omega)
 have hq := xfG h.q0 (by have := h.ql; omega)
 have hpl := h.pl;have hql := h.ql;have hlog := mag_log h;have hr := rung_rng h
 by_cases a : sig p < sig q
 ·
  rw [if_pos a] at hlog
  have hm := mag_lo hp hq a
  unfold rung at hr ⊢
  rw [if_pos a] at hr ⊢
  unfold Format.nearest
  rw [if_neg (by omega), hlog]
  simp only [c_lp, c_fb, c_bin, c_inf]
  have e1 : max ((p.log2 : Int) - q.log2 - 55 + ((54 : Nat) : Int) - ((52 : Nat) : Int)) (-1074) = (p.log2 : Int) - q.log2 - 53 := by rw [Int.max_eq_left (by omega)]; omega
  rw [e1, show ((p.log2 : Int) - q.log2 - 53 - -1074).toNat = p.log2 + 1021 - q.log2 by omega, show ((p.log2 : Int) - q.log2 - 55 - ((p.log2 : Int) - q.log2 - 53)).toNat = 0 by omega, show ((p.log2 : Int) - q.log2 - 53 - ((p.log2 : Int) - q.log2 - 55)).toNat = 2 by omega, cut2, Nat.shiftLeft_zero]
  rw [Nat.min_eq_left (by omega)]
 ·
  rw [if_neg a] at hlog
  have hm := mag_hi hp hq a
  unfold rung at hr ⊢
  rw [if_neg a] at hr ⊢
  unfold Format.nearest
  rw [if_neg (by omega), hlog]
  simp only [c_lp, c_fb, c_bin, c_inf]
  have e1 : max ((p.log2 : Int) - q.log2 - 55 + ((55 : Nat) : Int) - ((52 : Nat) : Int)) (-1074) = (p.log2 : Int) - q.log2 - 52 := by rw [Int.max_eq_left (by omega)]; omega
  rw [e1, show ((p.log2 : Int) - q.log2 - 52 - -1074).toNat = p.log2 + 1021 - q.log2 + 1 by omega, show ((p.log2 : Int) - q.log2 - 55 - ((p.log2 : Int) - q.log2 - 52)).toNat = 0 by omega, show ((p.log2 : Int) - q.log2 - 52 - ((p.log2 : Int) - q.log2 - 55)).toNat = 3 by omega, Nat.shiftLeft_zero, cut3 s (by omega)]
  rw [Nat.min_eq_left (by omega)]
theorem div_nat (s : Bool) {p q : Nat} (h : Fit p q) : double.div (double.nearest s p 0) (double.nearest false q 0) = some (double.word s (rung p q)) := by
 have hp := xfG h.p0 (by have := h.pl; omega)
 have hq := xfG h.q0 (by have := h.ql; omega)
 have lp := log_eq (k := 52) hp.1 hp.2
 have lq := log_eq (k := 52) hq.1 hq.2
 unfold Format.div
 rw [read_int s h.p0 h.pl, read_int false h.q0 (by have := h.ql; omega)]
 unfold Datum.quotient
 simp only
 rw [if_neg (show ¬ sig q = 0 by omega), lp, lq, c_fb]
 simp only [Option.map_some, Format.write]
 rw [show 52 + 2 + 52 - 52 = 54 from rfl, Nat.shiftLeft_eq, show (2 : Nat) ^ 54 = 18014398509481984 from rfl]
 have e1 : 2 * (sig p * 18014398509481984 / sig q) + (sig p * 18014398509481984 % sig q != 0).toNat = mag (sig p * 18014398509481984) (sig q) := by
  unfold mag
  by_cases h0 : sig p * 18014398509481984 % sig q = 0
  ·
   rw [if_pos h0, h0]; rfl
  ·
   rw [if_neg h0, bne_iff_ne.2 h0]; rfl
 rw [e1, show (p.log2 : Int) - 52 - ((q.log2 : Int) - 52) - ((54 : Nat) : Int) - 1 = (p.log2 : Int) - q.log2 - 55 by omega, Bool.xor_false, near_mag s h]
def val (r : Nat) : Nat := (4503599627370496 + r % 4503599627370496) * 2 ^ (r / 4503599627370496 - 1)
end Go.Proofs.Ytoncignjcgjhhaa.FQ
namespace Go.Proofs.Ytoncignjcgjhhaa.FQ
open Ieee
open Go.Proofs.Ytoncignjcgjhhaa.Q (quo64)
theorem fit_of {p q : Int} (h0 : 0 < p) (h1 : p < 1099511627776) (q0 : 0 < q) (q1 : q < 1048576) : Fit p.toNat q.toNat := by
 refine ⟨by omega, ?_, by omega, ?_⟩
 ·
  have := (Nat.log2_lt (show p.toNat ≠ 0 by omega)).2 (show p.toNat < 2 ^ 40 by omega); omega
 ·
  have := (Nat.log2_lt (show q.toNat ≠ 0 by omega)).2 (show q.toNat < 2 ^ 20 by omega); omega
theorem of_pos {n : Int} (h : 0 < n) : floatOfInt .f64 n = double.nearest false n.toNat 0 := by
  show double.nearest (decide (n < 0)) n.natAbs 0 = _
  rw [decide_eq_false (by omega), show n.natAbs = n.toNat by omega]
theorem of_neg {n : Int} (h : n < 0) : floatOfInt .f64 n = double.nearest true (-n).toNat 0 := by
  show double.nearest (decide (n < 0)) n.natAbs 0 = _
  rw [decide_eq_true h, show n.natAbs = (-n).toNat by omega]
end Go.Proofs.Ytoncignjcgjhhaa.FQ
namespace Go.Proofs.Ytoncignjcgjhhaa.N
open Go.RowKit Go.Proofs.YtoncignjcgjhhaaW.PrintWords Go.Proofs.YtoncignjcgjhhaaW.PrintLast Go.Proofs.YtoncignjcgjhhaaW.PrintMore
open Go.Proofs.Ytoncignjcgjhhaa.Q
open Go.Proofs.Ytoncignjcgjhhaa.L (w64 td tm tm0)
def cd (e : Bool) (a b : Int) : Int := if e = true then mn (M.civD b) 30 else if mn (M.civD a) 30 = 30 then mn (M.civD b) 30 else M.civD b
def thP (e : Bool) (a b : Int) : Int := 360 * (M.civY b - M.civY a) + 30 * (M.civM b - M.civM a) + cd e a b - mn (M.civD a) 30
theorem civ_all {n : Int} (h : 0 ≤ n ∧ n ≤ 109572) : (1900 ≤ M.civY n ∧ M.civY n ≤ 2199) ∧ (1 ≤ M.civM n ∧ M.civM n ≤ 12) ∧ (1 ≤ M.civD n ∧ M.civD n ≤ 31) := by
 obtain ⟨hd, _⟩ := M.civ_spec n h.1 h.2
 have hl := M.xeH (M.civY n) (M.civM n)
 unfold M.isDate at hd
 omega
theorem thirty_eq (e : Bool) {a b : Int} (ha : 0 ≤ a ∧ a ≤ 109572) (hb : 0 ≤ b ∧ b ≤ 109572) : thirty e a b = thP e a b := by
 obtain ⟨⟨a1, a2⟩, ⟨a3, a4⟩, a5, a6⟩ := civ_all ha
 obtain ⟨⟨b1, b2⟩, ⟨b3, b4⟩, b5, b6⟩ := civ_all hb
 have key : ∀ c d : Int, 1 ≤ c → c ≤ 31 → 1 ≤ d → d ≤ 31 → wrap64 (wrap64 (wrap64 (wrap64 (360 * wrap64 (M.civY b - M.civY a)) + wrap64 (30 * wrap64 (M.civM b - M.civM a))) + c) - d) = 360 * (M.civY b - M.civY a) + 30 * (M.civM b - M.civM a) + c - d := by
  intro c d c1 c2 d1 d2
  rw [w64 (x := M.civY b - M.civY a) (by omega) (by omega), w64 (x := M.civM b - M.civM a) (by omega) (by omega), w64 (x := 360 * (M.civY b - M.civY a)) (by omega) (by omega), w64 (x := 30 * (M.civM b - M.civM a)) (by omega) (by omega), w64 (x := 360 * (M.civY b - M.civY a) + 30 * (M.civM b - M.civM a)) (by omega) (by omega), w64 (x := 360 * (M.civY b - M.civY a) + 30 * (M.civM b - M.civM a) + c) (by omega) (by omega), w64 (by omega) (by omega)]
 have m1 : 1 ≤ mn (M.civD a) 30 ∧ mn (M.civD a) 30 ≤ 31 := by unfold mn; split <;> omega
 have m2 : 1 ≤ mn (M.civD b) 30 ∧ mn (M.civD b) 30 ≤ 31 := by unfold mn; split <;> omega
 unfold thirty thP cd
 by_cases h1 : e = true
 ·
  rw [if_pos h1, if_pos h1]; exact key _ _ m2.1 m2.2 m1.1 m1.2
 ·
  rw [if_neg h1, if_neg h1]
  by_cases h2 : mn (M.civD a) 30 = 30
  ·
   rw [if_pos h2, if_pos h2]; exact key _ _ m2.1 m2.2 m1.1 m1.2
  ·
   rw [if_neg h2, if_neg h2]; exact key _ _ b5 b6 m1.1 m1.2
theorem thP_rng (e : Bool) {a b : Int} (ha : 0 ≤ a ∧ a ≤ 109572) (hb : 0 ≤ b ∧ b ≤ 109572) : -200000 ≤ thP e a b ∧ thP e a b ≤ 200000 := by
 obtain ⟨⟨a1, a2⟩, ⟨a3, a4⟩, a5, a6⟩ := civ_all ha
 obtain ⟨⟨b1, b2⟩, ⟨b3, b4⟩, b5, b6⟩ := civ_all hb
 unfold thP cd mn
 (repeat' split) <;> omega
noncomputable def num (kind we : Int) (l : List S63) (a b : Int) : Int := if kind = 4 ∨ kind = 5 then (if b < a then -(thP (decide (kind = 5)) b a) else thP (decide (kind = 5)) a b) else ahead kind we l b - ahead kind we l a
def den2 (kind : Int) : Int := if kind = 4 ∨ kind = 5 then 360 else den kind
theorem den2_rng (kind : Int) : 0 < den2 kind ∧ den2 kind < 1048576 := by unfold den2 den; (repeat' split) <;> decide
theorem frac_num {kind we : Int} {l : List S63} {a b : Int} (h : (frac kind we l a b).2.2 = 0) : frac kind we l a b = (num kind we l a b, den2 kind, 0) ∧ (0 ≤ a ∧ a ≤ 109572) ∧ (0 ≤ b ∧ b ≤ 109572) := by
 by_cases h45 : kind = 4 ∨ kind = 5
 ·
  unfold frac at h ⊢
  rw [if_neg (by omega), if_neg (by omega)] at h ⊢
  by_cases hd : (0 ≤ a ∧ a ≤ 109572) ∧ (0 ≤ b ∧ b ≤ 109572)
  ·
   rw [if_neg (fun h => h hd)]
   refine ⟨?_, hd.1, hd.2⟩
   have hu : ∀ x y : Int, (0 ≤ x ∧ x ≤ 109572) → (0 ≤ y ∧ y ≤ 109572) → up kind we l x y = (thP (decide (kind = 5)) x y, 360, 0) := by
    intro x y hx hy
    unfold up
    rw [if_neg (by omega), if_neg (by omega), if_neg (by omega)]
    rcases h45 with h4 | h5
    ·
     rw [if_pos h4, decide_eq_false (by omega), thirty_eq false hx hy]
    ·
     rw [if_neg (by omega), if_pos h5, decide_eq_true h5, thirty_eq true hx hy]
   unfold num den2
   rw [if_pos h45, if_pos h45]
   by_cases hlt : b < a
   ·
    rw [if_pos hlt, if_pos hlt, hu b a hd.2 hd.1]
    have := thP_rng (decide (kind = 5)) hd.2 hd.1
    simp only
    rw [w64 (by omega) (by omega)]
   ·
    rw [if_neg hlt, if_neg hlt, hu a b hd.1 hd.2]
  ·
   rw [if_pos hd] at h; exact absurd (show (51 : Int) = 0 from h) (by decide)
 ·
  obtain ⟨h1, h2, h3⟩ := frac_ok (show ¬ kind = 4 ∧ ¬ kind = 5 by omega) h
  refine ⟨?_, h2, h3⟩
  unfold num den2
  rw [if_neg h45, if_neg h45]; exact h1
theorem cYear_ok {kind we : Int} {l : List S63} {a b : Int} (hw : wfL l) (h : (frac kind we l a b).2.2 = 0) {v : Nat} (hv : quo64 (num kind we l a b) (den2 kind) = some v) : Ev (fun k => xeC.f k kind we l a b) (v, 0) := by
 refine Ev.congr (fun k => by unfold xeC.f; rfl) (Ev.bind (cFrac kind we l a b hw) ?_)
 rw [(frac_num h).1]
 exact Ev.congr (fun k => by rw [if_pos rfl, hv, Option.bind_some]) (Ev.now _)
theorem cYear_err {kind we : Int} {l : List S63} {a b : Int} (hw : wfL l) (h : ¬ (frac kind we l a b).2.2 = 0) : Ev (fun k => xeC.f k kind we l a b) (0, (frac kind we l a b).2.2) := by
  refine Ev.congr (fun k => by unfold xeC.f; rfl) (Ev.bind (cFrac kind we l a b hw) ?_)
  exact Ev.congr (fun k => if_neg h) (Ev.now _)
end Go.Proofs.Ytoncignjcgjhhaa.N
namespace Go.Proofs.Ytoncignjcgjhhaa.Q
open Go.RowKit Go.Proofs.YtoncignjcgjhhaaW.PrintWords Go.Proofs.YtoncignjcgjhhaaW.PrintLast Go.Proofs.YtoncignjcgjhhaaW.PrintMore
attribute [local go_sem] xcC xcB xcR xcQ xbX xbW xcF xcE   -- for this text's walks alone
-- NOT PRINTED: function 5 (tenorlaw7_CountTurns)
-- NOT PRINTED: function 6 (tenorlaw7_CountRises)
def xdB.f (a0_0 : Bool) (l0_1 : List Int) (a0_2 : Int) : Option (Bool) := some ((l0_1.length : Int) == 0)
set_option maxHeartbeats 8000000 in
set_option maxRecDepth 100000 in
theorem xdB.calls (a0_0 : Bool) (A0_1 : Option Addr) (c0_1 : Nat) (l0_1 : List Int) (a0_2 : Int) (r : Bool) (w : World) (hr0_1 : Kd.C (Kd.int .u64) w A0_1 l0_1.length l0_1) (hc0_1 : l0_1.length ≤ c0_1) (h : xdB.f a0_0 l0_1 a0_2 = some r) :
  Calls Try.prog 99 #[.agg #[.bool a0_0, .slice A0_1 l0_1.length c0_1, .int .i64 a0_2]] w fun e w' => e = .returned (.bool r) ∧ Below w.heap.size w w' := by
 have hu96 := Try.underlying96;have HR0_1 := Aside0.mk hr0_1;have HC0_1 := Aside0.mk hc0_1;clear hr0_1 hc0_1
 have HB := Aside0.mk (Below.refl w.heap.size w)
 have H : (some ((l0_1.length : Int) == 0)) = some r := h
 clear h
 obtain rfl := Option.some.inj H
 go_enter Try.func99, Try.ntmps99
 go_wp2_with (first | ((with_reducible refine xbM (N := 1) rfl ?_); refine xbJ ?hg (N := 1) ?hd (cs := #[.bool a0_0, .slice A0_1 l0_1.length c0_1, .int .i64 a0_2]) (t := 96) ?hr ?_; (case hd => rfl); (case hg => rfl); (case hr => first | (go_simp; done) | (go_simp; rfl)); intro gb321 hg w2 hbox hb; have n0_ := Aside0.mk (xaP (by repeat (first | (with_reducible first | exact HB.out | apply xaB | apply xaA | apply xaC) | exact HB.out)) hb); have n1_ := Aside0.mk (hbox); have n2_ := Aside0.mk ((by rw [hg]; exact (xaR (by repeat (first | (with_reducible first | exact HB.out | apply xaB | apply xaA | apply xaC) | exact HB.out))) : w.heap.size ≤ gb321)); have n3_ := Aside0.mk ((by rw [hg]; exact (xaR (by repeat (first | (with_reducible first | exact HB.out | apply xaB | apply xaA | apply xaC) | exact HB.out))) : w.heap.size ≤ gb321)); clear HB; have HB := n0_; have BK321 := n1_; have GW321 := n2_; have GE321 := n3_; clear n0_ n1_ n2_ n3_; clear hb hbox hg; have hcz3_0 : w2.cell? ⟨gb321, 0, none⟩ = some (.bool a0_0) := (xaE BK321.out 0).trans rfl; have hcz3_1 : w2.cell? ⟨gb321, 1, none⟩ = some (.slice A0_1 l0_1.length c0_1) := (xaE BK321.out 1).trans rfl; have hcz3_2 : w2.cell? ⟨gb321, 2, none⟩ = some (.int .i64 a0_2) := (xaE BK321.out 2).trans rfl; have hfz3_0 := xaD BK321.out 0; have hfz3_1 := xaD BK321.out 1; have hfz3_2 := xaD BK321.out 2))
 go_ret
 exact ⟨by first | rfl | (simp [xaL, xaK] <;> rfl) | (simp [*, xaL, xaK] <;> rfl), by repeat (first | (with_reducible first | exact HB.out | apply xaB | apply xaA | apply xaC | refine xaF ?_ GE321.out) | exact HB.out)⟩
def xbC.l0 : Nat → Int → Int → Option (Int)
  | 0, _, _ => none
  | k + 1, x3, x4 => if x4 > 0 then (xbC.l0 k (wrap64 (x3 + 1)) (IntKind.u64.wrap (Int.tdiv x4 2))) else (some x3)
def xbC.f (k : Nat) (l0 : List Int) : Option (Int) := if (l0.length : Int) = 0 then (some 0) else (if 0 ≤ (wrap64 ((l0.length : Int) - 1)) then (if (wrap64 ((l0.length : Int) - 1)) < (l0.length : Int) then (xbC.l0 k (wrap64 (32 * (wrap64 ((l0.length : Int) - 1)))) (rd l0 (wrap64 ((l0.length : Int) - 1)))) else (none)) else (none))
set_option maxHeartbeats 8000000 in
set_option maxRecDepth 100000 in
theorem xbC.calls (k : Nat) (A0 : Option Addr) (c0 : Nat) (l0 : List Int) (r : Int) (w : World) (hr0 : Kd.C (Kd.int .u64) w A0 l0.length l0) (hc0 : l0.length ≤ c0) (h : xbC.f k l0 = some r) :
  Calls Try.prog 100 #[.slice A0 l0.length c0] w fun e w' => e = .returned (.int .i64 r) ∧ Drawn0 w w' := by
 have HR0 := Aside0.mk hr0;have HC0 := Aside0.mk hc0;clear hr0 hc0
 have H : (if (l0.length : Int) = 0 then (some 0) else (if 0 ≤ (wrap64 ((l0.length : Int) - 1)) then (if (wrap64 ((l0.length : Int) - 1)) < (l0.length : Int) then (xbC.l0 k (wrap64 (32 * (wrap64 ((l0.length : Int) - 1)))) (rd l0 (wrap64 ((l0.length : Int) - 1)))) else (none)) else (none))) = some r := h
 clear h
 by_cases c2 : (l0.length : Int) = 0
 ·
  rw [if_pos c2] at H
  have c2b0 : ((l0.length : Int) == 0) = true := beq_iff_eq.mpr c2
  have c2b1 : ((l0.length : Int) != 0) = false := bne_eq_false_iff_eq.mpr c2
  clear c2
  obtain rfl := Option.some.inj H
  go_enter Try.func100, Try.ntmps100
  go_wp2
  go_ret
  exact ⟨by first | rfl | (simp; done) | (simp [*]; done), by repeat (first | exact Drawn0.refl _ | apply Drawn0.step)⟩
 ·
  rw [if_neg c2] at H
  have c2b0 : ((l0.length : Int) == 0) = false := beq_eq_false_iff_ne.mpr c2
  have c2b1 : ((l0.length : Int) != 0) = true := bne_iff_ne.mpr c2
  have c2b2 : ¬ (l0 = []) := fun h_ => c2 (by rw [h_]; rfl)
  obtain ⟨ji3, hji3⟩ : ∃ j_ : Int, (wrap64 ((l0.length : Int) - 1)) = j_ := ⟨_, rfl⟩
  replace H : (if 0 ≤ (ji3) then (if (ji3) < (l0.length : Int) then (xbC.l0 k (wrap64 (32 * (ji3))) (rd l0 (ji3))) else (none)) else (none)) = some r := by first | (rw [hji3] at H; exact H) | (simp only [hji3] at H ⊢; exact H)
  have hji3w : (IntKind.i64.wrap ((l0.length : Int) - 1)) = ji3 := (i64_w _).trans hji3
  by_cases c4 : 0 ≤ (ji3)
  ·
   rw [if_pos c4] at H
   have c4b0 : decide (0 ≤ (ji3)) = true := decide_eq_true c4
   clear c4
   by_cases c5 : (ji3) < (l0.length : Int)
   ·
    rw [if_pos c5] at H
    have c5b0 : decide ((ji3) < (l0.length : Int)) = true := decide_eq_true c5
    clear c5;have H' := Aside0.mk H;clear H
    have p322 : 0 ≤ ((ji3) : Int) := of_decide_eq_true (by first | (with_reducible assumption) | assumption)
    have q322 : (ji3) < (l0.length : Int) := of_decide_eq_true (by first | (with_reducible assumption) | assumption)
    obtain ⟨ad322, e322, hx322_0⟩ := Kd.at_int HR0.out (ji3) p322 q322
    cases e322
    replace p322 := eq_true p322;replace q322 := eq_true q322
    go_enter Try.func100, Try.ntmps100
    go_wp2
    go_loopg [3, 4] k (fun kq v3 v4 w' => ∃ (x3_1 : Int) (x4_1 : Int), v3 = .int .i64 x3_1 ∧ v4 = .int .u64 x4_1 ∧ Aside0 (xbC.l0 kq x3_1 x4_1 = some r) ∧ Aside0 (kq ≤ k) ∧ Drawn0 w w')
    case atStart => exact ⟨(wrap64 (32 * (ji3))), (rd l0 (ji3)), (by first | rfl | (simp; done) | (simp only [← hji3] <;> (first | rfl | simp)) | (simp [*]; done)), (by first | rfl | (simp; done) | (simp only [← hji3] <;> (first | rfl | simp)) | (simp [*]; done)), H', ⟨Nat.le_refl _⟩, by repeat (first | exact Drawn0.refl _ | apply Drawn0.step)⟩
    case round =>
     clear H'
     obtain ⟨x3_1, x4_1, rfl, rfl, HA, HK1, ⟨m1, rfl⟩⟩ := hrel
     cases gk with
     | zero => exact absurd HA.out (by simp [xbC.l0])
     | succ k1 =>
      have H := HA.out;clear HA
      simp only [xbC.l0] at H
      by_cases c6 : x4_1 > 0
      ·
       rw [if_pos c6] at H
       have c6b0 : decide (0 < x4_1) = true := decide_eq_true c6
       clear c6;have H' := Aside0.mk H;clear H
       go_wp2
       go_roundg k1
       case measure => have := HK1.out; omega
       case rel => exact ⟨(wrap64 (x3_1 + 1)), (IntKind.u64.wrap (Int.tdiv x4_1 2)), (by first | rfl | (simp; done) | (simp [*]; done)), (by first | rfl | (simp; done) | (simp [*]; done)), H', ⟨by have := HK1.out; omega⟩, by repeat (first | exact Drawn0.refl _ | apply Drawn0.step)⟩
      ·
       rw [if_neg c6] at H
       have c6b0 : decide (0 < x4_1) = false := decide_eq_false c6
       clear c6
       obtain rfl := Option.some.inj H
       go_wp2
       go_ret
       exact ⟨by first | rfl | (simp; done) | (simp only [← hji3] <;> (first | rfl | simp)) | (simp [*]; done), by repeat (first | exact Drawn0.refl _ | apply Drawn0.step)⟩
   ·
    rw [if_neg c5] at H
    exact absurd H (by simp)
  ·
   rw [if_neg c4] at H
   exact absurd H (by simp)
def xbQ.l0 : Nat → List Int → Int → Option (List Int)
  | 0, _, _ => none
  | k + 1, x0, x3 => if x3 > 0 then (if 0 ≤ (wrap64 (x3 - 1)) then (if (wrap64 (x3 - 1)) < (x0.length : Int) then (if (rd x0 (wrap64 (x3 - 1))) = 0 then (xbQ.l0 k x0 (wrap64 (x3 - 1))) else (if 0 ≤ x3 then (if x3 ≤ (x0.length : Int) then (some (x0.take (x3 : Int).toNat)) else (none)) else (none))) else (none)) else (none)) else (if 0 ≤ x3 then (if x3 ≤ (x0.length : Int) then (some (x0.take (x3 : Int).toNat)) else (none)) else (none))
def xbQ.f (k : Nat) (l0 : List Int) : Option (List Int) := xbQ.l0 k l0 (l0.length : Int)
set_option maxHeartbeats 8000000 in
set_option maxRecDepth 100000 in
theorem xbQ.calls (k : Nat) (P0_ : Nat → Prop) (u9000_ : Value) (l0 : List Int) (r : List Int) (w0 w : World) (hB : Below w0.heap.size w0 w) (ho0 : Kd.R (Kd.int .u64) 38 w w0.heap.size P0_ u9000_ l0) (h : xbQ.f k l0 = some r) :
  Calls Try.prog 128 #[u9000_] w fun e w' => ∃ v0_ : Value, e = .returned (v0_) ∧ Kd.R (Kd.int .u64) 38 w' w0.heap.size (fun k_ => (P0_ k_ ∨ w.heap.size ≤ k_)) v0_ r ∧ Below w0.heap.size w0 w' ∧ Kept w w' (fun k_ => P0_ k_) := by
 have HO0 := Aside0.mk (show Kd.R (Kd.int .u64) 38 w w0.heap.size (fun k_ => (P0_ k_ ∨ w.heap.size ≤ k_)) u9000_ l0 from Kd.R_mono ho0 (fun k_ hk => (.inl hk)))
 have HK := Aside0.mk (Kept.refl w (fun k_ => P0_ k_))
 have HW0 := Aside0.mk hB.size;have HB := Aside0.mk hB;clear hB
 have H : (xbQ.l0 k l0 (l0.length : Int)) = some r := h
 clear h;have H' := Aside0.mk H;clear H
 obtain ⟨Ao2, co2, eo2⟩ := Kd.xcY HO0.out
 subst eo2
 go_enter Try.func128, Try.ntmps128
 go_wp2
 go_loopg [3] k (fun kq v3 w' => ∃ (x3_1 : Int), v3 = .int .i64 x3_1 ∧ Aside0 (xbQ.l0 kq l0 x3_1 = some r) ∧ Aside0 (kq ≤ k) ∧ Aside0 (Kd.R (Kd.int .u64) 38 w' w0.heap.size (fun k_ => (P0_ k_ ∨ w.heap.size ≤ k_)) (.slice Ao2 l0.length co2) l0) ∧ Aside0 (Kept w w' (fun k_ => P0_ k_)) ∧ Aside0 (Below w0.heap.size w0 w'))
 case atStart => exact ⟨((l0.length : Int)), (by first | rfl | (simp; done) | (simp [*]; done)), H', ⟨Nat.le_refl _⟩, ⟨by (with_reducible repeat (first | apply Kd.xbZ | apply Kd.xbY | apply Kd.R_drew)); exact HO0.out⟩, ⟨by repeat (first | (with_reducible first | exact HK.out | apply Kept.alloc | apply Kept.drewN | apply Kept.drew) | exact HK.out)⟩, ⟨by repeat (first | (with_reducible first | exact HB.out | apply xaB | apply xaA | apply xaC) | exact HB.out)⟩⟩
 case round =>
  clear H'
  obtain ⟨x3_1, rfl, HA, HK1, HO_0, HK, HB⟩ := hrel
  cases gk with
  | zero => exact absurd HA.out (by simp [xbQ.l0])
  | succ k1 =>
   have H := HA.out;clear HA
   simp only [xbQ.l0] at H
   by_cases c3 : x3_1 > 0
   ·
    rw [if_pos c3] at H
    have c3b0 : decide (0 < x3_1) = true := decide_eq_true c3
    clear c3
    obtain ⟨ji4, hji4⟩ : ∃ j_ : Int, (wrap64 (x3_1 - 1)) = j_ := ⟨_, rfl⟩
    replace H : (if 0 ≤ (ji4) then (if (ji4) < (l0.length : Int) then (if (rd l0 (ji4)) = 0 then (xbQ.l0 k1 l0 ji4) else (if 0 ≤ x3_1 then (if x3_1 ≤ (l0.length : Int) then (some (l0.take (x3_1 : Int).toNat)) else (none)) else (none))) else (none)) else (none)) = some r := by first | (rw [hji4] at H; exact H) | (simp only [hji4] at H ⊢; exact H)
    have hji4w : (IntKind.i64.wrap (x3_1 - 1)) = ji4 := (i64_w _).trans hji4
    by_cases c5 : 0 ≤ (ji4)
    ·
     rw [if_pos c5] at H
     have c5b0 : decide (0 ≤ (ji4)) = true := decide_eq_true c5
     clear c5
     by_cases c6 : (ji4) < (l0.length : Int)
     ·
      rw [if_pos c6] at H
      have c6b0 : decide ((ji4) < (l0.length : Int)) = true := decide_eq_true c6
      clear c6
      by_cases c7 : (rd l0 (ji4)) = 0
      ·
       rw [if_pos c7] at H
       have c7b0 : ((rd l0 (ji4)) == 0) = true := beq_iff_eq.mpr c7
       have c7b1 : ((rd l0 (ji4)) != 0) = false := bne_eq_false_iff_eq.mpr c7
       clear c7;have H' := Aside0.mk H;clear H
       have p323 : 0 ≤ ((ji4) : Int) := of_decide_eq_true (by first | (with_reducible assumption) | assumption)
       have q323 : (ji4) < (l0.length : Int) := of_decide_eq_true (by first | (with_reducible assumption) | assumption)
       obtain ⟨ad323, e323, hx323_0⟩ := Kd.at_int (Kd.R_reads' HO_0.out).2.2 (ji4) p323 q323
       cases e323
       replace p323 := eq_true p323;replace q323 := eq_true q323
       go_wp2
       go_roundg k1
       case measure => have := HK1.out; omega
       case rel => exact ⟨(ji4), (by first | rfl | (simp; done) | (simp only [← hji4] <;> (first | rfl | simp)) | (simp [*]; done)), H', ⟨by have := HK1.out; omega⟩, ⟨by (with_reducible repeat (first | apply Kd.xbZ | apply Kd.xbY | apply Kd.R_drew)); exact HO_0.out⟩, ⟨by repeat (first | (with_reducible first | exact HK.out | apply Kept.alloc | apply Kept.drewN | apply Kept.drew) | exact HK.out)⟩, ⟨by repeat (first | (with_reducible first | exact HB.out | apply xaB | apply xaA | apply xaC) | exact HB.out)⟩⟩
      ·
       rw [if_neg c7] at H
       have c7b0 : ((rd l0 (ji4)) == 0) = false := beq_eq_false_iff_ne.mpr c7
       have c7b1 : ((rd l0 (ji4)) != 0) = true := bne_iff_ne.mpr c7
       by_cases c8 : 0 ≤ x3_1
       ·
        rw [if_pos c8] at H
        have c8b0 := eq_true c8
        have c8b1 : decide (0 ≤ x3_1) = true := decide_eq_true c8
        clear c8
        by_cases c9 : x3_1 ≤ (l0.length : Int)
        ·
         rw [if_pos c9] at H
         have c9b0 := eq_true c9
         have c9b1 : decide (x3_1 ≤ (l0.length : Int)) = true := decide_eq_true c9
         clear c9
         obtain ⟨y324, hy324⟩ : ∃ y_ : List Int, y_ = (l0.take (x3_1 : Int).toNat) := ⟨_, rfl⟩
         replace H : (some y324) = some r := by first | (rw [hy324]; with_reducible exact H) | (have H2_ := (Option.bind_some _ _).symm.trans H; rw [hy324]; with_reducible exact H2_) | (have H2_ := (Option.bind_some _ _).symm.trans H; with_reducible exact H2_) | with_reducible exact H | (rw [hy324]; exact H) | exact H
         have Ny324 := Aside0.mk hy324;clear hy324
         obtain rfl := Option.some.inj H
         have p323 : 0 ≤ ((ji4) : Int) := of_decide_eq_true (by first | (with_reducible assumption) | assumption)
         have q323 : (ji4) < (l0.length : Int) := of_decide_eq_true (by first | (with_reducible assumption) | assumption)
         obtain ⟨ad323, e323, hx323_0⟩ := Kd.at_int (Kd.R_reads' HO_0.out).2.2 (ji4) p323 q323
         cases e323
         replace p323 := eq_true p323;replace q323 := eq_true q323
         have q10 : (x3_1 : Int) ≤ ((l0.length : Int) : Int) := of_decide_eq_true (by first | (with_reducible assumption) | assumption)
         obtain ⟨i010, hi010, _, hsz10, _⟩ := info_parts info38
         have hcut10 := cut_to (P := Try.prog) 94 38 .i64 Try.underlying94 hi010 (some ad323) l0.length co2 x3_1 (of_decide_eq_true (by first | (with_reducible assumption) | assumption)) q10 (Kd.R_reads' HO_0.out).2.1
         have hr10 := Kd.R_take (m := (x3_1 : Int).toNat) HO_0.out (by omega)
         have hy10 : y324.length = (x3_1 : Int).toNat := (by rw [Ny324.out, List.length_take]; omega)
         rw [← Ny324.out] at hr10
         rw [← hy10] at hr10 hcut10
         clear hy10 hi010 hsz10 HO_0;have HO326 := Aside0.mk hr10;clear hr10;replace q10 := eq_true q10
         go_wp2
         go_ret
         exact ⟨_, by first | rfl | (simp [xaL, xaK] <;> rfl) | (simp only [← hji4]; first | rfl | (simp [xaL, xaK] <;> rfl)) | (simp [*, xaL, xaK] <;> rfl), by (with_reducible repeat (first | apply Kd.xbZ | apply Kd.xbY | apply Kd.R_drew)); exact HO326.out, by repeat (first | (with_reducible first | exact HB.out | apply xaB | apply xaA | apply xaC) | exact HB.out), by repeat (first | (with_reducible first | exact HK.out | apply Kept.alloc | apply Kept.drewN | apply Kept.drew) | exact HK.out)⟩
        ·
         rw [if_neg c9] at H
         exact absurd H (by simp)
       ·
        rw [if_neg c8] at H
        exact absurd H (by simp)
     ·
      rw [if_neg c6] at H
      exact absurd H (by simp)
    ·
     rw [if_neg c5] at H
     exact absurd H (by simp)
   ·
    rw [if_neg c3] at H
    have c3b0 : decide (0 < x3_1) = false := decide_eq_false c3
    clear c3
    by_cases c11 : 0 ≤ x3_1
    ·
     rw [if_pos c11] at H
     have c11b0 := eq_true c11
     have c11b1 : decide (0 ≤ x3_1) = true := decide_eq_true c11
     clear c11
     by_cases c12 : x3_1 ≤ (l0.length : Int)
     ·
      rw [if_pos c12] at H
      have c12b0 := eq_true c12
      have c12b1 : decide (x3_1 ≤ (l0.length : Int)) = true := decide_eq_true c12
      clear c12
      obtain ⟨y327, hy327⟩ : ∃ y_ : List Int, y_ = (l0.take (x3_1 : Int).toNat) := ⟨_, rfl⟩
      replace H : (some y327) = some r := by first | (rw [hy327]; with_reducible exact H) | (have H2_ := (Option.bind_some _ _).symm.trans H; rw [hy327]; with_reducible exact H2_) | (have H2_ := (Option.bind_some _ _).symm.trans H; with_reducible exact H2_) | with_reducible exact H | (rw [hy327]; exact H) | exact H
      have Ny327 := Aside0.mk hy327;clear hy327
      obtain rfl := Option.some.inj H
      have q13 : (x3_1 : Int) ≤ ((l0.length : Int) : Int) := of_decide_eq_true (by first | (with_reducible assumption) | assumption)
      obtain ⟨i013, hi013, _, hsz13, _⟩ := info_parts info38
      have hcut13 := cut_to (P := Try.prog) 94 38 .i64 Try.underlying94 hi013 Ao2 l0.length co2 x3_1 (of_decide_eq_true (by first | (with_reducible assumption) | assumption)) q13 (Kd.R_reads' HO_0.out).2.1
      have hr13 := Kd.R_take (m := (x3_1 : Int).toNat) HO_0.out (by omega)
      have hy13 : y327.length = (x3_1 : Int).toNat := (by rw [Ny327.out, List.length_take]; omega)
      rw [← Ny327.out] at hr13
      rw [← hy13] at hr13 hcut13
      clear hy13 hi013 hsz13 HO_0;have HO329 := Aside0.mk hr13;clear hr13;replace q13 := eq_true q13
      go_wp2
      go_ret
      exact ⟨_, by first | rfl | (simp [xaL, xaK] <;> rfl) | (simp [*, xaL, xaK] <;> rfl), by (with_reducible repeat (first | apply Kd.xbZ | apply Kd.xbY | apply Kd.R_drew)); exact HO329.out, by repeat (first | (with_reducible first | exact HB.out | apply xaB | apply xaA | apply xaC) | exact HB.out), by repeat (first | (with_reducible first | exact HK.out | apply Kept.alloc | apply Kept.drewN | apply Kept.drew) | exact HK.out)⟩
     ·
      rw [if_neg c12] at H
      exact absurd H (by simp)
    ·
     rw [if_neg c11] at H
     exact absurd H (by simp)
end Go.Proofs.Ytoncignjcgjhhaa.Q
namespace Go.Proofs.Ytoncignjcgjhhaa.Q
open Go.RowKit Go.Proofs.YtoncignjcgjhhaaW.PrintWords Go.Proofs.YtoncignjcgjhhaaW.PrintLast Go.Proofs.YtoncignjcgjhhaaW.PrintMore
attribute [local go_sem] xcC xcB xcR xcQ xbX xbW xcF xcE   -- for this text's walks alone
def xbA.l0 : Nat → List Int → Int → List Int → Int → Option (List Int)
  | 0, _, _, _, _ => none
  | k + 1, x0, x1, x5, x6 => if x6 < (x0.length : Int) then (if 0 ≤ x6 then (if 0 ≤ (Int.tmod x1 32) then (if 0 ≤ (wrap64 (x6 + (wrap64 (Int.tdiv x1 32)))) then (if (wrap64 (x6 + (wrap64 (Int.tdiv x1 32)))) < (x5.length : Int) then (if 0 ≤ (wrap64 ((wrap64 (x6 + (wrap64 (Int.tdiv x1 32)))) + 1)) then (if (wrap64 ((wrap64 (x6 + (wrap64 (Int.tdiv x1 32)))) + 1)) < (x5.length : Int) then (xbA.l0 k x0 x1 ((x5.set ((wrap64 (x6 + (wrap64 (Int.tdiv x1 32)))) : Int).toNat (IntKind.u64.wrap ((rd x5 (wrap64 (x6 + (wrap64 (Int.tdiv x1 32))))) + (Int.tmod (shl .u64 (rd x0 x6) (Int.tmod x1 32)) 4294967296)))).set ((wrap64 ((wrap64 (x6 + (wrap64 (Int.tdiv x1 32)))) + 1)) : Int).toNat (IntKind.u64.wrap (Int.tdiv (shl .u64 (rd x0 x6) (Int.tmod x1 32)) 4294967296))) (wrap64 (x6 + 1))) else (none)) else (none)) else (none)) else (none)) else (none)) else (none)) else ((xbQ.f k x5).bind fun t337 => (some t337))
def xbA.f (k : Nat) (l0 : List Int) (a1 : Int) : Option (List Int) := if (l0.length : Int) = 0 then (some ([] : List Int)) else (if 0 ≤ (wrap64 ((wrap64 ((l0.length : Int) + (wrap64 (Int.tdiv a1 32)))) + 1)) then (if (wrap64 ((wrap64 ((l0.length : Int) + (wrap64 (Int.tdiv a1 32)))) + 1) : Int).toNat ≤ 35184372088832 then (xbA.l0 k l0 a1 (List.replicate (wrap64 ((wrap64 ((l0.length : Int) + (wrap64 (Int.tdiv a1 32)))) + 1) : Int).toNat 0) 0) else (none)) else (none))
set_option maxHeartbeats 8000000 in
set_option maxRecDepth 100000 in
theorem xbA.calls (k : Nat) (A0 : Option Addr) (c0 : Nat) (l0 : List Int) (a1 : Int) (r : List Int) (w : World) (hr0 : Kd.C (Kd.int .u64) w A0 l0.length l0) (hc0 : l0.length ≤ c0) (h : xbA.f k l0 a1 = some r) :
  Calls Try.prog 102 #[.slice A0 l0.length c0, .int .i64 a1] w fun e w' => ∃ v0_ : Value, e = .returned (v0_) ∧ Kd.R (Kd.int .u64) 38 w' w.heap.size (fun _ => True) v0_ r ∧ Below w.heap.size w w' := by
 have HR0 := Aside0.mk hr0;have HC0 := Aside0.mk hc0;clear hr0 hc0
 have HB := Aside0.mk (Below.refl w.heap.size w)
 have H : (if (l0.length : Int) = 0 then (some ([] : List Int)) else (if 0 ≤ (wrap64 ((wrap64 ((l0.length : Int) + (wrap64 (Int.tdiv a1 32)))) + 1)) then (if (wrap64 ((wrap64 ((l0.length : Int) + (wrap64 (Int.tdiv a1 32)))) + 1) : Int).toNat ≤ 35184372088832 then (xbA.l0 k l0 a1 (List.replicate (wrap64 ((wrap64 ((l0.length : Int) + (wrap64 (Int.tdiv a1 32)))) + 1) : Int).toNat 0) 0) else (none)) else (none))) = some r := h
 clear h
 by_cases c3 : (l0.length : Int) = 0
 ·
  rw [if_pos c3] at H
  have c3b0 : ((l0.length : Int) == 0) = true := beq_iff_eq.mpr c3
  have c3b1 : ((l0.length : Int) != 0) = false := bne_eq_false_iff_eq.mpr c3
  clear c3
  obtain rfl := Option.some.inj H
  go_enter Try.func102, Try.ntmps102
  go_wp2
  go_ret
  exact ⟨_, by first | rfl | (simp [xaL, xaK] <;> rfl) | (simp [*, xaL, xaK] <;> rfl), by first | exact Kd.R_nil _ _ _ _ _ | exact Kd.N_nil _ _ _ _ _ | exact Kd.V_nil _ _ _ _ _ | exact Kd.Q_nil _ _ _ _ _ | exact Kd.S_nil _ _ _ _ _, by repeat (first | (with_reducible first | exact HB.out | apply xaB | apply xaA | apply xaC) | exact HB.out)⟩
 ·
  rw [if_neg c3] at H
  have c3b0 : ((l0.length : Int) == 0) = false := beq_eq_false_iff_ne.mpr c3
  have c3b1 : ((l0.length : Int) != 0) = true := bne_iff_ne.mpr c3
  have c3b2 : ¬ (l0 = []) := fun h_ => c3 (by rw [h_]; rfl)
  obtain ⟨ji4, hji4⟩ : ∃ j_ : Int, (wrap64 ((wrap64 ((l0.length : Int) + (wrap64 (Int.tdiv a1 32)))) + 1)) = j_ := ⟨_, rfl⟩
  replace H : (if 0 ≤ (ji4) then (if (ji4 : Int).toNat ≤ 35184372088832 then (xbA.l0 k l0 a1 (List.replicate (ji4 : Int).toNat 0) 0) else (none)) else (none)) = some r := by first | (rw [hji4] at H; exact H) | (simp only [hji4] at H ⊢; exact H)
  have hji4w : (IntKind.i64.wrap ((wrap64 ((l0.length : Int) + (wrap64 (Int.tdiv a1 32)))) + 1)) = ji4 := (i64_w _).trans hji4
  by_cases c5 : 0 ≤ (ji4)
  ·
   rw [if_pos c5] at H
   have c5b0 := eq_true c5
   have c5b1 : decide (0 ≤ (ji4)) = true := decide_eq_true c5
   clear c5
   by_cases c6 : (ji4 : Int).toNat ≤ 35184372088832
   ·
    rw [if_pos c6] at H
    have c6b0 := eq_true c6
    have c6b1 : decide ((ji4 : Int).toNat ≤ 35184372088832) = true := decide_eq_true c6
    clear c6
    obtain ⟨y330, hy330⟩ : ∃ y_ : List Int, y_ = (List.replicate (ji4 : Int).toNat 0) := ⟨_, rfl⟩
    replace H : (xbA.l0 k l0 a1 y330 0) = some r := by first | (rw [hy330]; with_reducible exact H) | (have H2_ := (Option.bind_some _ _).symm.trans H; rw [hy330]; with_reducible exact H2_) | (have H2_ := (Option.bind_some _ _).symm.trans H; with_reducible exact H2_) | with_reducible exact H | (rw [hy330]; exact H) | exact H
    have Ny330 := Aside0.mk hy330;clear hy330;have H' := Aside0.mk H;clear H
    go_enter Try.func102, Try.ntmps102
    go_wp2_with (first | ((with_reducible refine xbM (N := 17) rfl ?_); refine Kd.R_make (Kd.int .u64) _ 38 rfl (N := 17) rfl 94 _ _ rfl ji4 rfl rfl Try.underlying94 (.int .u64 0) 8 info38 rfl (by decide) (by omega) 0 (ok := fun _ => True) (okp := fun _ => True) rfl (fun _ hk => hk) trivial (of_decide_eq_true (by first | (with_reducible assumption) | assumption)) (Nat.le_trans (Nat.mul_le_mul_right _ (of_decide_eq_true (by first | (with_reducible assumption) | assumption) : ji4.toNat ≤ 35184372088832)) (by omega)) (Below.refl _ _) (Nat.le_refl _) ?_; intro v331 w7 ho8 hb hg_ hnew_; clear hg_ hnew_; (first | rw [← Ny330.out] at ho8 | (simp only [Int.reduceToNat] at ho8; rw [← Ny330.out] at ho8)); have n0_ := Aside0.mk (Kd.xdR ho8 (xaR (by repeat (first | (with_reducible first | exact HB.out | apply xaB | apply xaA | apply xaC) | exact HB.out)))); have n1_ := Aside0.mk (xaP (by repeat (first | (with_reducible first | exact HB.out | apply xaB | apply xaA | apply xaC) | exact HB.out)) hb); clear HB; have HO332 := n0_; have HB := n1_; clear n0_ n1_; clear hb ho8))
    go_loopg [6] k (fun kq v6 w' => ∃ (x5_1 : List Int) (x6_1 : Int), v6 = .int .i64 x6_1 ∧ Aside0 (xbA.l0 kq l0 a1 x5_1 x6_1 = some r) ∧ Aside0 (kq ≤ k) ∧ Aside0 (Kd.R (Kd.int .u64) 38 w' w.heap.size (fun _ => True) v331 x5_1) ∧ Aside0 (Below w.heap.size w w'))
    case atStart => exact ⟨(y330), (0), (by first | rfl | (simp; done) | (simp [*]; done)), H', ⟨Nat.le_refl _⟩, ⟨by (with_reducible repeat (first | apply Kd.xbZ | apply Kd.xbY | apply Kd.R_drew)); exact HO332.out⟩, ⟨by repeat (first | (with_reducible first | exact HB.out | apply xaB | apply xaA | apply xaC) | exact HB.out)⟩⟩
    case round =>
     clear H'
     obtain ⟨x5_1, x6_1, rfl, HA, HK1, HO_5, HB⟩ := hrel
     cases gk with
     | zero => exact absurd HA.out (by simp [xbA.l0])
     | succ k1 =>
      have H := HA.out;clear HA
      simp only [xbA.l0] at H
      by_cases c9 : x6_1 < (l0.length : Int)
      ·
       rw [if_pos c9] at H
       have c9b0 : decide (x6_1 < (l0.length : Int)) = true := decide_eq_true c9
       clear c9
       by_cases c10 : 0 ≤ x6_1
       ·
        rw [if_pos c10] at H
        have c10b0 : decide (0 ≤ x6_1) = true := decide_eq_true c10
        clear c10
        obtain ⟨ji11, hji11⟩ : ∃ j_ : Int, (Int.tmod a1 32) = j_ := ⟨_, rfl⟩
        replace H : (if 0 ≤ (ji11) then (if 0 ≤ (wrap64 (x6_1 + (wrap64 (Int.tdiv a1 32)))) then (if (wrap64 (x6_1 + (wrap64 (Int.tdiv a1 32)))) < (x5_1.length : Int) then (if 0 ≤ (wrap64 ((wrap64 (x6_1 + (wrap64 (Int.tdiv a1 32)))) + 1)) then (if (wrap64 ((wrap64 (x6_1 + (wrap64 (Int.tdiv a1 32)))) + 1)) < (x5_1.length : Int) then (xbA.l0 k1 l0 a1 ((x5_1.set ((wrap64 (x6_1 + (wrap64 (Int.tdiv a1 32)))) : Int).toNat (IntKind.u64.wrap ((rd x5_1 (wrap64 (x6_1 + (wrap64 (Int.tdiv a1 32))))) + (Int.tmod (shl .u64 (rd l0 x6_1) (ji11)) 4294967296)))).set ((wrap64 ((wrap64 (x6_1 + (wrap64 (Int.tdiv a1 32)))) + 1)) : Int).toNat (IntKind.u64.wrap (Int.tdiv (shl .u64 (rd l0 x6_1) (ji11)) 4294967296))) (wrap64 (x6_1 + 1))) else (none)) else (none)) else (none)) else (none)) else (none)) = some r := by first | (rw [hji11] at H; exact H) | (simp only [hji11] at H ⊢; exact H)
        by_cases c12 : 0 ≤ (ji11)
        ·
         rw [if_pos c12] at H
         have c12b0 := eq_true c12
         have c12b1 : decide (0 ≤ (ji11)) = true := decide_eq_true c12
         clear c12
         obtain ⟨ji13, hji13⟩ : ∃ j_ : Int, (shl .u64 (rd l0 x6_1) (ji11)) = j_ := ⟨_, rfl⟩
         replace H : (if 0 ≤ (wrap64 (x6_1 + (wrap64 (Int.tdiv a1 32)))) then (if (wrap64 (x6_1 + (wrap64 (Int.tdiv a1 32)))) < (x5_1.length : Int) then (if 0 ≤ (wrap64 ((wrap64 (x6_1 + (wrap64 (Int.tdiv a1 32)))) + 1)) then (if (wrap64 ((wrap64 (x6_1 + (wrap64 (Int.tdiv a1 32)))) + 1)) < (x5_1.length : Int) then (xbA.l0 k1 l0 a1 ((x5_1.set ((wrap64 (x6_1 + (wrap64 (Int.tdiv a1 32)))) : Int).toNat (IntKind.u64.wrap ((rd x5_1 (wrap64 (x6_1 + (wrap64 (Int.tdiv a1 32))))) + (Int.tmod (ji13) 4294967296)))).set ((wrap64 ((wrap64 (x6_1 + (wrap64 (Int.tdiv a1 32)))) + 1)) : Int).toNat (IntKind.u64.wrap (Int.tdiv (ji13) 4294967296))) (wrap64 (x6_1 + 1))) else (none)) else (none)) else (none)) else (none)) = some r := by first | (rw [hji13] at H; exact H) | (simp only [hji13] at H ⊢; exact H)
         have hji13_ : (IntKind.u64.wrap ((rd l0 x6_1) * 2 ^ min (ji11).toNat 64)) = ji13 := hji13
         have hji13z : (ji11) ≤ 64 → (IntKind.u64.wrap ((rd l0 x6_1) * 2 ^ (ji11).toNat)) = ji13 := xfC hji13
         obtain ⟨ji14, hji14⟩ : ∃ j_ : Int, (wrap64 (x6_1 + (wrap64 (Int.tdiv a1 32)))) = j_ := ⟨_, rfl⟩
         replace H : (if 0 ≤ (ji14) then (if (ji14) < (x5_1.length : Int) then (if 0 ≤ (wrap64 ((ji14) + 1)) then (if (wrap64 ((ji14) + 1)) < (x5_1.length : Int) then (xbA.l0 k1 l0 a1 ((x5_1.set ((ji14) : Int).toNat (IntKind.u64.wrap ((rd x5_1 (ji14)) + (Int.tmod (ji13) 4294967296)))).set ((wrap64 ((ji14) + 1)) : Int).toNat (IntKind.u64.wrap (Int.tdiv (ji13) 4294967296))) (wrap64 (x6_1 + 1))) else (none)) else (none)) else (none)) else (none)) = some r := by first | (rw [hji14] at H; exact H) | (simp only [hji14] at H ⊢; exact H)
         have hji14w : (IntKind.i64.wrap (x6_1 + (wrap64 (Int.tdiv a1 32)))) = ji14 := (i64_w _).trans hji14
         by_cases c15 : 0 ≤ (ji14)
         ·
          rw [if_pos c15] at H
          have c15b0 : decide (0 ≤ (ji14)) = true := decide_eq_true c15
          clear c15
          by_cases c16 : (ji14) < (x5_1.length : Int)
          ·
           rw [if_pos c16] at H
           have c16b0 : decide ((ji14) < (x5_1.length : Int)) = true := decide_eq_true c16
           clear c16
           obtain ⟨y335, hy335⟩ : ∃ y_ : List Int, y_ = (x5_1.set ((ji14) : Int).toNat (IntKind.u64.wrap ((rd x5_1 (ji14)) + (Int.tmod (ji13) 4294967296)))) := ⟨_, rfl⟩
           replace H : (if 0 ≤ (wrap64 ((ji14) + 1)) then (if (wrap64 ((ji14) + 1)) < (x5_1.length : Int) then (xbA.l0 k1 l0 a1 (y335.set ((wrap64 ((ji14) + 1)) : Int).toNat (IntKind.u64.wrap (Int.tdiv (ji13) 4294967296))) (wrap64 (x6_1 + 1))) else (none)) else (none)) = some r := by first | (rw [hy335]; with_reducible exact H) | (have H2_ := (Option.bind_some _ _).symm.trans H; rw [hy335]; with_reducible exact H2_) | (have H2_ := (Option.bind_some _ _).symm.trans H; with_reducible exact H2_) | with_reducible exact H | (rw [hy335]; exact H) | exact H
           have Ny335 := Aside0.mk hy335;clear hy335
           obtain ⟨ji18, hji18⟩ : ∃ j_ : Int, (wrap64 ((ji14) + 1)) = j_ := ⟨_, rfl⟩
           replace H : (if 0 ≤ (ji18) then (if (ji18) < (x5_1.length : Int) then (xbA.l0 k1 l0 a1 (y335.set ((ji18) : Int).toNat (IntKind.u64.wrap (Int.tdiv (ji13) 4294967296))) (wrap64 (x6_1 + 1))) else (none)) else (none)) = some r := by first | (rw [hji18] at H; exact H) | (simp only [hji18] at H ⊢; exact H)
           have hji18w : (IntKind.i64.wrap ((ji14) + 1)) = ji18 := (i64_w _).trans hji18
           by_cases c19 : 0 ≤ (ji18)
           ·
            rw [if_pos c19] at H
            have c19b0 : decide (0 ≤ (ji18)) = true := decide_eq_true c19
            clear c19
            by_cases c20 : (ji18) < (x5_1.length : Int)
            ·
             rw [if_pos c20] at H
             have c20b0 : decide ((ji18) < (x5_1.length : Int)) = true := decide_eq_true c20
             clear c20
             obtain ⟨y336, hy336⟩ : ∃ y_ : List Int, y_ = (y335.set ((ji18) : Int).toNat (IntKind.u64.wrap (Int.tdiv (ji13) 4294967296))) := ⟨_, rfl⟩
             replace H : (xbA.l0 k1 l0 a1 y336 (wrap64 (x6_1 + 1))) = some r := by first | (rw [hy336]; with_reducible exact H) | (have H2_ := (Option.bind_some _ _).symm.trans H; rw [hy336]; with_reducible exact H2_) | (have H2_ := (Option.bind_some _ _).symm.trans H; with_reducible exact H2_) | with_reducible exact H | (rw [hy336]; exact H) | exact H
             have Ny336 := Aside0.mk hy336;clear hy336;have H' := Aside0.mk H;clear H
             have p333 : 0 ≤ (x6_1 : Int) := of_decide_eq_true (by first | (with_reducible assumption) | assumption)
             have q333 : x6_1 < (l0.length : Int) := of_decide_eq_true (by first | (with_reducible assumption) | assumption)
             obtain ⟨ad333, e333, hx333_0⟩ := Kd.at_int HR0.out x6_1 p333 q333
             cases e333
             replace hx333_0 := (HB.out.cell (World.block_lt_of_cell? w _ hx333_0)).trans hx333_0
             replace p333 := eq_true p333;replace q333 := eq_true q333
             obtain ⟨Ao22, co22, eo22⟩ := Kd.xcY HO_5.out
             subst eo22
             have p334 : 0 ≤ ((ji14) : Int) := of_decide_eq_true (by first | (with_reducible assumption) | assumption)
             have q334 : (ji14) < (x5_1.length : Int) := of_decide_eq_true (by first | (with_reducible assumption) | assumption)
             obtain ⟨ad334, e334, hx334_0⟩ := Kd.at_int (Kd.R_reads' HO_5.out).2.2 (ji14) p334 q334
             cases e334
             replace p334 := eq_true p334;replace q334 := eq_true q334
             have p17 : 0 ≤ ((ji14) : Int) := of_decide_eq_true (by first | (with_reducible assumption) | assumption)
             have q17 : ((ji14) : Int) < ((x5_1.length : Int) : Int) := of_decide_eq_true (by first | (with_reducible assumption) | assumption)
             obtain ⟨go17, co17, eo17, gb17, gl17, cl17, HG17⟩ := Kd.R_form HO_5.out (by omega)
             (first | cases eo17 | (injection eo17 with ea_ en_ ec_; (first | subst ea_ | (injection ea_ with ea_; subst ea_)); subst ec_; clear en_))
             have GB17 := Aside0.mk gb17;have GG17 := Aside0.mk HG17;clear gb17 gl17 HG17
             (first | simp only [add_plain] at hx334_0 | skip)
             obtain ⟨hx17_0, hf17_0⟩ := Kd.xeQ 0 HO_5.out ((ji14) : Int) p17 q17
             replace p17 := eq_true p17;replace q17 := eq_true q17
             have HP23 := Kd.R_putg HO_5.out ((ji14) : Int) (IntKind.u64.wrap ((rd x5_1 (ji14)) + (Int.tmod (ji13) 4294967296)))
             go_wp2_with (first | ((with_reducible refine xfS (t := 38) (p := 46) rfl ?_); refine xfF (t := 38) (p := 46) (v := ?vo_w24) (w1 := (wr.setCell ⟨go17, ((ji14) : Int).toNat, none⟩ (.int .u64 (IntKind.u64.wrap ((rd x5_1 (ji14)) + (Int.tmod (ji13) 4294967296)))))) ?hg ?ho ?hn ?hr ?_; (case ho => rfl); (case hg => rfl); (case hn => rfl); (case hr => first | (go_simp; done) | (go_simp; rfl)); intro w24 hw; have hg : wr.grownBy w24 (some go17) := (by rw [hw]; exact HP23.2); have hp_ : Kd.R (Kd.int .u64) 38 w24 w.heap.size (fun _ => True) (.slice (some ⟨go17, 0, none⟩) x5_1.length co22) y335 := (by rw [hw, Ny335.out]; exact HP23.1); clear HP23; have n0_ := Aside0.mk (hp_); have n1_ := Aside0.mk ((by rw [hw]; exact xaF (HB.out) GB17.out : Below w.heap.size w w24)); clear HO_5; clear HB; have HO_5 := n0_; have HB := n1_; clear n0_ n1_; clear hg hw hp_; have p21 : 0 ≤ ((ji18) : Int) := of_decide_eq_true (by first | (with_reducible assumption) | assumption); have q21 : ((ji18) : Int) < ((x5_1.length : Int) : Int) := of_decide_eq_true (by first | (with_reducible assumption) | assumption); obtain ⟨hx21_0, hf21_0⟩ := Kd.xeQ 0 HO_5.out ((ji18) : Int) p21 q21; replace p21 := eq_true p21; replace q21 := eq_true q21; obtain ⟨hy25_, hz25_⟩ := Kd.xeQ 0 HO_5.out ((ji18) : Int) (of_decide_eq_true (by first | (with_reducible assumption) | assumption)) (of_decide_eq_true (by first | (with_reducible assumption) | assumption)); have HP25 := Kd.R_putg HO_5.out ((ji18) : Int) (IntKind.u64.wrap (Int.tdiv (ji13) 4294967296))) | ((with_reducible refine xfS (t := 38) (p := 55) rfl ?_); refine xfF (t := 38) (p := 55) (v := ?vo_w26) (w1 := (w24.setCell ⟨go17, ((ji18) : Int).toNat, none⟩ (.int .u64 (IntKind.u64.wrap (Int.tdiv (ji13) 4294967296))))) ?hg ?ho ?hn ?hr ?_; (case ho => rfl); (case hg => rfl); (case hn => rfl); (case hr => first | (go_simp; done) | (go_simp; rfl)); intro w26 hw; have hg : w24.grownBy w26 (some go17) := (by rw [hw]; exact HP25.2); have hp_ : Kd.R (Kd.int .u64) 38 w26 w.heap.size (fun _ => True) (.slice (some ⟨go17, 0, none⟩) x5_1.length co22) y336 := (by rw [hw, Ny336.out]; exact HP25.1); clear HP25; have n0_ := Aside0.mk (hp_); have n1_ := Aside0.mk ((by rw [hw]; exact xaF (HB.out) GB17.out : Below w.heap.size w w26)); clear HO_5; clear HB; have HO_5 := n0_; have HB := n1_; clear n0_ n1_; clear hg hw hp_))
             go_roundg k1
             case measure => have := HK1.out; omega
             case rel => exact ⟨(y336), (wrap64 (x6_1 + 1)), (by first | rfl | (simp; done) | (simp [*]; done)), H', ⟨by have := HK1.out; omega⟩, ⟨by (with_reducible repeat (first | apply Kd.xbZ | apply Kd.xbY | apply Kd.R_drew)); exact HO_5.out⟩, ⟨by repeat (first | (with_reducible first | exact HB.out | apply xaB | apply xaA | apply xaC) | exact HB.out)⟩⟩
            ·
             rw [if_neg c20] at H
             exact absurd H (by simp)
           ·
            rw [if_neg c19] at H
            exact absurd H (by simp)
          ·
           rw [if_neg c16] at H
           exact absurd H (by simp)
         ·
          rw [if_neg c15] at H
          exact absurd H (by simp)
        ·
         rw [if_neg c12] at H
         exact absurd H (by simp)
       ·
        rw [if_neg c10] at H
        exact absurd H (by simp)
      ·
       rw [if_neg c9] at H
       have c9b0 : decide (x6_1 < (l0.length : Int)) = false := decide_eq_false c9
       clear c9;replace H := Option.bind_eq_some_iff.mp H
       obtain ⟨t337, A270, H⟩ := H
       replace H : (some t337) = some r := H
       have A27 := Aside0.mk A270;clear A270
       obtain rfl := Option.some.inj H
       obtain ⟨Ao28, co28, eo28⟩ := Kd.xcY HO_5.out
       subst eo28
       go_wp2_with (first | ((with_reducible refine xaQ (f := 128) rfl ?_); refine goesL_ (some 57) rfl rfl Try.func128 (by kernel_rfl) rfl #[.slice Ao28 x5_1.length co28] rfl (by (try simp only [List.map_toArray, List.map_cons, List.map_nil]); first | done | rfl | (simp only [List.length_drop, List.length_take]; rfl)) ?_; (with_reducible refine (xbQ.calls k1 (fun k_ => some k_ = (.slice Ao28 x5_1.length co28 : Value).ownBlock) (.slice Ao28 x5_1.length co28) x5_1 t337 w _ ?side1 ?side2 A27.out).mono ?_); (case side1 => repeat (first | (with_reducible first | exact HB.out | apply xaB | apply xaA | apply xaC) | exact HB.out)); (case side2 => exact Kd.xgN rfl HO_5.out); rintro e w29 ⟨v338, rfl, ho0, hb, hkp⟩; refine ⟨_, rfl, ?_⟩; have n0_ := Aside0.mk (Kd.R_mono (ok' := fun k_ => True) ho0 (fun k_ hk_ => trivial)); have n1_ := Aside0.mk (hb); clear HB; clear HO_5; have HO339 := n0_; have HB := n1_; clear n0_ n1_; (try clear hb); (try clear hkp); (try clear ho0)))
       go_ret
       exact ⟨_, by first | rfl | (simp [xaL, xaK] <;> rfl) | (simp only [← hji4]; first | rfl | (simp [xaL, xaK] <;> rfl)) | (simp [*, xaL, xaK] <;> rfl), by (with_reducible repeat (first | apply Kd.xbZ | apply Kd.xbY | apply Kd.R_drew)); exact HO339.out, by repeat (first | (with_reducible first | exact HB.out | apply xaB | apply xaA | apply xaC) | exact HB.out)⟩
   ·
    rw [if_neg c6] at H
    exact absurd H (by simp)
  ·
   rw [if_neg c5] at H
   exact absurd H (by simp)
def xaM.f (l0 : List Int) (a1 : Int) : Option (Int) := if a1 < 0 then (some 0) else (if a1 ≥ (l0.length : Int) then (some 0) else (if 0 ≤ a1 then (if a1 < (l0.length : Int) then (some (rd l0 a1)) else (none)) else (none)))
set_option maxHeartbeats 8000000 in
set_option maxRecDepth 100000 in
theorem xaM.calls (A0 : Option Addr) (c0 : Nat) (l0 : List Int) (a1 : Int) (r : Int) (w : World) (hr0 : Kd.C (Kd.int .u64) w A0 l0.length l0) (hc0 : l0.length ≤ c0) (h : xaM.f l0 a1 = some r) :
  Calls Try.prog 137 #[.slice A0 l0.length c0, .int .i64 a1] w fun e w' => e = .returned (.int .u64 r) ∧ Drawn0 w w' := by
 have HR0 := Aside0.mk hr0;have HC0 := Aside0.mk hc0;clear hr0 hc0
 have H : (if a1 < 0 then (some 0) else (if a1 ≥ (l0.length : Int) then (some 0) else (if 0 ≤ a1 then (if a1 < (l0.length : Int) then (some (rd l0 a1)) else (none)) else (none)))) = some r := h
 clear h
 by_cases c3 : a1 < 0
 ·
  rw [if_pos c3] at H
  have c3b0 : decide (a1 < 0) = true := decide_eq_true c3
  clear c3
  obtain rfl := Option.some.inj H
  go_enter Try.func137, Try.ntmps137
  go_wp2
  go_ret
  exact ⟨by first | rfl | (simp; done) | (simp [*]; done), by repeat (first | exact Drawn0.refl _ | apply Drawn0.step)⟩
 ·
  rw [if_neg c3] at H
  have c3b0 : decide (a1 < 0) = false := decide_eq_false c3
  clear c3
  by_cases c4 : a1 ≥ (l0.length : Int)
  ·
   rw [if_pos c4] at H
   have c4b0 : decide ((l0.length : Int) ≤ a1) = true := decide_eq_true c4
   clear c4
   obtain rfl := Option.some.inj H
   go_enter Try.func137, Try.ntmps137
   go_wp2
   go_ret
   exact ⟨by first | rfl | (simp; done) | (simp [*]; done), by repeat (first | exact Drawn0.refl _ | apply Drawn0.step)⟩
  ·
   rw [if_neg c4] at H
   have c4b0 : decide ((l0.length : Int) ≤ a1) = false := decide_eq_false c4
   clear c4
   by_cases c5 : 0 ≤ a1
   ·
    rw [if_pos c5] at H
    have c5b0 : decide (0 ≤ a1) = true := decide_eq_true c5
    clear c5
    by_cases c6 : a1 < (l0.length : Int)
    ·
     rw [if_pos c6] at H
     have c6b0 : decide (a1 < (l0.length : Int)) = true := decide_eq_true c6
     clear c6
     obtain rfl := Option.some.inj H
     have p340 : 0 ≤ (a1 : Int) := of_decide_eq_true (by first | (with_reducible assumption) | assumption)
     have q340 : a1 < (l0.length : Int) := of_decide_eq_true (by first | (with_reducible assumption) | assumption)
     obtain ⟨ad340, e340, hx340_0⟩ := Kd.at_int HR0.out a1 p340 q340
     cases e340
     replace p340 := eq_true p340;replace q340 := eq_true q340
     go_enter Try.func137, Try.ntmps137
     go_wp2
     go_ret
     exact ⟨by first | rfl | (simp; done) | (simp [*]; done), by repeat (first | exact Drawn0.refl _ | apply Drawn0.step)⟩
    ·
     rw [if_neg c6] at H
     exact absurd H (by simp)
   ·
    rw [if_neg c5] at H
    exact absurd H (by simp)
end Go.Proofs.Ytoncignjcgjhhaa.Q
