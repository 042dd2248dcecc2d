/- Contracts and facts of functions of the program, joined in one text. -/
import Derived.Test.YtkabcgmegljebaaGreatDoorDGA
set_option maxHeartbeats 8000000
set_option maxRecDepth 100000
set_option linter.unusedVariables false
set_option linter.unusedSimpArgs false
namespace Go.Proofs.YtkabcgmegljebaaGreatDoor.M
def leap (y : Int) : Bool := decide (y % 4 = 0 ∧ (y % 100 ≠ 0 ∨ y % 400 = 0))
def lp (y : Int) : Int := if leap y = true then 1 else 0
def mlen (y m : Int) : Int := if m = 2 then (if leap y = true then 29 else 28) else if m = 4 then 30 else if m = 6 then 30 else if m = 9 then 30 else if m = 11 then 30 else 31
def before (y : Int) : Int := 365 * (y - 1900) + ((y - 1) / 4 - (y - 1) / 100 + (y - 1) / 400) - 460
def cum (y m : Int) : Int :=
  if m ≤ 1 then 0 else if m = 2 then 31 else
  (if m = 3 then 59 else if m = 4 then 90 else if m = 5 then 120 else if m = 6 then 151 else if m = 7 then 181 else if m = 8 then 212 else if m = 9 then 243 else if m = 10 then 273 else if m = 11 then 304 else if m = 12 then 334 else 365) + lp y
def dayOf (y m d : Int) : Int := before y + cum y m + d - 1
theorem lp_01 (y : Int) : 0 ≤ lp y ∧ lp y ≤ 1 := by unfold lp; split <;> omega
theorem xeL (y m : Int) : 28 ≤ mlen y m ∧ mlen y m ≤ 31 := by unfold mlen; repeat' split <;> omega
theorem mlen_lp (y : Int) : mlen y 2 = 28 + lp y := by unfold mlen lp; simp; split <;> omega
theorem xfF (y m : Int) (h1 : 1 ≤ m) (h2 : m ≤ 12) : cum y (m + 1) = cum y m + mlen y m := by
 have hl := mlen_lp y
 have : m = 1 ∨ m = 2 ∨ m = 3 ∨ m = 4 ∨ m = 5 ∨ m = 6 ∨ m = 7 ∨ m = 8 ∨ m = 9 ∨ m = 10 ∨ m = 11 ∨ m = 12 := by omega
 rcases this with rfl | rfl | rfl | rfl | rfl | rfl | rfl | rfl | rfl | rfl | rfl | rfl
 all_goals first | (rw [hl]; simp [cum]; done) | (simp [cum, mlen]; done) | (rw [hl]; simp [cum]; omega) | (simp [cum, mlen]; omega)
theorem xfJ (y : Int) : before (y + 1) = before y + 365 + lp y := by
 unfold before lp leap
 by_cases h : y % 4 = 0 ∧ (y % 100 ≠ 0 ∨ y % 400 = 0)
 ·
  rw [if_pos (by simpa using h)]; omega
 ·
  rw [if_neg (by simpa using h)]; omega
theorem before_1900 : before 1900 = 0 := by decide
theorem before_2200 : before 2200 = 109573 := by decide
theorem xeU {a b : Int} (h : a ≤ b) : before a + 365 * (b - a) ≤ before b := by
  unfold before; omega
theorem cum_le (y : Int) {a b : Int} (h0 : 1 ≤ a) (h : a ≤ b) (hb : b ≤ 13) : cum y a + 28 * (b - a) ≤ cum y b := by
 have := lp_01 y
 have ha : a = 1 ∨ a = 2 ∨ a = 3 ∨ a = 4 ∨ a = 5 ∨ a = 6 ∨ a = 7 ∨ a = 8 ∨ a = 9 ∨ a = 10 ∨ a = 11 ∨ a = 12 ∨ a = 13 := by omega
 have hb' : b = 1 ∨ b = 2 ∨ b = 3 ∨ b = 4 ∨ b = 5 ∨ b = 6 ∨ b = 7 ∨ b = 8 ∨ b = 9 ∨ b = 10 ∨ b = 11 ∨ b = 12 ∨ b = 13 := by omega
 unfold cum
 rcases ha with rfl | rfl | rfl | rfl | rfl | rfl | rfl | rfl | rfl | rfl | rfl | rfl | rfl <;>
  rcases hb' with rfl | rfl | rfl | rfl | rfl | rfl | rfl | rfl | rfl | rfl | rfl | rfl | rfl <;> simp <;> omega
theorem cum_1 (y : Int) : cum y 1 = 0 := by simp [cum]
theorem cum_13 (y : Int) : cum y 13 = 365 + lp y := by simp [cum]
theorem cum_rng (y m : Int) : 0 ≤ cum y m ∧ cum y m ≤ 366 := by
 have := lp_01 y
 unfold cum; repeat' split
 all_goals omega
def yearOf (n : Int) : Int := if before (1901 + n / 366) ≤ n then 1901 + n / 366 else 1900 + n / 366
def monOf (y d : Int) : Int :=
  if d < cum y 2 then 1 else if d < cum y 3 then 2 else if d < cum y 4 then 3 else if d < cum y 5 then 4 else if d < cum y 6 then 5 else if d < cum y 7 then 6 else
  if d < cum y 8 then 7 else if d < cum y 9 then 8 else if d < cum y 10 then 9 else if d < cum y 11 then 10 else if d < cum y 12 then 11 else 12
theorem xeV (n : Int) (h0 : 0 ≤ n) (h1 : n ≤ 109572) : 1900 ≤ yearOf n ∧ yearOf n ≤ 2199 ∧ before (yearOf n) ≤ n ∧ n < before (yearOf n + 1) := by
 unfold yearOf
 split
 ·
  rename_i h
  refine ⟨by omega, ?_, h, ?_⟩
  ·
   have := before_2200
   by_cases h2 : 1901 + n / 366 ≤ 2199
   ·
    exact h2
   ·
    have := xeU (a := 2200) (b := 1901 + n / 366) (by omega); omega
  ·
   unfold before; omega
 ·
  rename_i h
  refine ⟨by omega, by omega, ?_, ?_⟩
  ·
   unfold before; omega
  ·
   have e : 1900 + n / 366 + 1 = 1901 + n / 366 := by omega
   rw [e]; omega
theorem xfR (y d : Int) (h0 : 0 ≤ d) (h1 : d < 365 + lp y) : 1 ≤ monOf y d ∧ monOf y d ≤ 12 ∧ cum y (monOf y d) ≤ d ∧ d < cum y (monOf y d + 1) := by
 have c1 := cum_1 y; have c13 := cum_13 y
 unfold monOf
 repeat' split
 all_goals (refine ⟨by omega, by omega, ?_, ?_⟩)
 all_goals first | omega | (rw [c1]; omega) | (show d < cum y 13; omega) | assumption
def civY (n : Int) : Int := yearOf n
def civM (n : Int) : Int := monOf (civY n) (n - before (civY n))
def civD (n : Int) : Int := n - before (civY n) - cum (civY n) (civM n) + 1
def isDate (y m d : Int) : Prop := 1900 ≤ y ∧ y ≤ 2199 ∧ 1 ≤ m ∧ m ≤ 12 ∧ 1 ≤ d ∧ d ≤ mlen y m
theorem civ_spec (n : Int) (h0 : 0 ≤ n) (h1 : n ≤ 109572) : isDate (civY n) (civM n) (civD n) ∧ dayOf (civY n) (civM n) (civD n) = n := by
 obtain ⟨a, b, c, d⟩ := xeV n h0 h1
 have hs := xfJ (yearOf n)
 obtain ⟨e, f, g, i⟩ := xfR (yearOf n) (n - before (yearOf n)) (by omega) (by omega)
 have hc := xfF (yearOf n) _ e f
 refine ⟨⟨a, b, e, f, ?_, ?_⟩, ?_⟩
 ·
  unfold civD civM civY; omega
 ·
  unfold civD civM civY; omega
 ·
  unfold dayOf civD civM civY; omega
theorem xiG {y m d : Int} (h : isDate y m d) : 0 ≤ dayOf y m d ∧ dayOf y m d ≤ 109572 ∧ before y ≤ dayOf y m d ∧ dayOf y m d < before (y + 1) := by
 obtain ⟨a, b, c, e, f, g⟩ := h
 have h1 := before_1900; have h2 := before_2200
 have h3 := xeU a; have h4 := xeU (show y + 1 ≤ 2200 by omega)
 have h5 := xfJ y
 have h6 := cum_le y (show (1 : Int) ≤ 1 by omega) c (by omega)
 have h7 := cum_le y (show 1 ≤ m + 1 by omega) (show m + 1 ≤ 13 by omega) (by omega)
 have h8 := cum_1 y; have h9 := cum_13 y; have h10 := xfF y m c e
 unfold dayOf; omega
theorem year_unique {n y z : Int} (h1 : before y ≤ n) (h2 : n < before (y + 1)) (h3 : before z ≤ n) (h4 : n < before (z + 1)) : y = z := by
 by_cases h : y < z
 ·
  have := xeU (show y + 1 ≤ z by omega); omega
 ·
  by_cases h' : z < y
  ·
   have := xeU (show z + 1 ≤ y by omega); omega
  ·
   omega
theorem mon_unique {y d a b : Int} (a1 : 1 ≤ a) (a2 : a ≤ 12) (b1 : 1 ≤ b) (b2 : b ≤ 12) (h1 : cum y a ≤ d) (h2 : d < cum y (a + 1)) (h3 : cum y b ≤ d) (h4 : d < cum y (b + 1)) : a = b := by
 by_cases h : a < b
 ·
  have := cum_le y (show 1 ≤ a + 1 by omega) (show a + 1 ≤ b by omega) (by omega); omega
 ·
  by_cases h' : b < a
  ·
   have := cum_le y (show 1 ≤ b + 1 by omega) (show b + 1 ≤ a by omega) (by omega); omega
  ·
   omega
theorem civ_unique {y m d n : Int} (h : isDate y m d) (e : dayOf y m d = n) : civY n = y ∧ civM n = m ∧ civD n = d := by
 have hr := xiG h
 obtain ⟨hd, hn⟩ := civ_spec n (by omega) (by omega)
 have hr2 := xiG hd
 obtain ⟨a, b, c, f, g, i⟩ := h
 obtain ⟨a', b', c', f', g', i'⟩ := hd
 rw [hn] at hr2; rw [e] at hr
 have ey : civY n = y := year_unique hr2.2.2.1 hr2.2.2.2 hr.2.2.1 hr.2.2.2
 rw [ey] at hn i'
 have s1 := xfF y m c f
 have s2 := xfF y (civM n) (by omega) (by omega)
 have em : civM n = m := by
  unfold dayOf at hn e
  exact mon_unique (y := y) (d := n - before y) c' f' c f (by omega) (by omega) (by omega) (by omega)
 refine ⟨ey, em, ?_⟩
 rw [em] at hn
 unfold dayOf at hn e; omega
instance isDateDec (y m d : Int) : Decidable (isDate y m d) := inferInstanceAs (Decidable (1900 ≤ y ∧ y ≤ 2199 ∧ 1 ≤ m ∧ m ≤ 12 ∧ 1 ≤ d ∧ d ≤ mlen y m))
end Go.Proofs.YtkabcgmegljebaaGreatDoor.M
namespace Go.Proofs.YtkabcgmegljebaaGreatDoor.Q
open Go.RowKit Go.Proofs.YtkabcgmegljebaaGreatDoorW.PrintWords Go.Proofs.YtkabcgmegljebaaGreatDoorW.PrintLast Go.Proofs.YtkabcgmegljebaaGreatDoorW.PrintMore
attribute [local go_sem] xcP xcM xcY xcX xcF xcE xcN xcL
def xdY.f (a0 : Int) : Option (Bool) := if a0 ≥ 0 then (some (decide (a0 ≤ 109572))) else (some false)
theorem xdY.calls (a0 : Int) (r : Bool) (w : World) (h : xdY.f a0 = some r) :
  Calls Tryz.prog 98 #[.int .i64 a0] w fun e w' => e = .returned (.bool r) ∧ Drawn0 w w' := by
 have H : (if a0 ≥ 0 then (some (decide (a0 ≤ 109572))) else (some false)) = some r := h
 clear h
 by_cases c2 : a0 ≥ 0
 ·
  rw [if_pos c2] at H
  have c2b0 : decide (0 ≤ a0) = true := decide_eq_true c2
  clear c2
  obtain rfl := Option.some.inj H
  go_enter Tryz.func98, Tryz.ntmps98
  go_wp2
  go_ret
  exact ⟨eS, eD⟩
 ·
  rw [if_neg c2] at H
  have c2b0 : decide (0 ≤ a0) = false := decide_eq_false c2
  clear c2
  obtain rfl := Option.some.inj H
  go_enter Tryz.func98, Tryz.ntmps98
  go_wp2
  go_ret
  exact ⟨eS, eD⟩
def xcU.f (a0 : Int) : Option (Bool) := if (Int.tmod a0 4) = 0 then (if (Int.tmod a0 100) = 0 then (some ((Int.tmod a0 400) == 0)) else (some true)) else (some false)
theorem xcU.calls (a0 : Int) (r : Bool) (w : World) (h : xcU.f a0 = some r) :
  Calls Tryz.prog 121 #[.int .i64 a0] w fun e w' => e = .returned (.bool r) ∧ Drawn0 w w' := by
 have H : (if (Int.tmod a0 4) = 0 then (if (Int.tmod a0 100) = 0 then (some ((Int.tmod a0 400) == 0)) else (some true)) else (some false)) = some r := h
 clear h
 by_cases c2 : (Int.tmod a0 4) = 0
 ·
  rw [if_pos c2] at H
  have c2b0 : ((Int.tmod a0 4) == 0) = true := beq_iff_eq.mpr c2
  have c2b1 : ((Int.tmod a0 4) != 0) = false := bne_eq_false_iff_eq.mpr c2
  clear c2
  by_cases c3 : (Int.tmod a0 100) = 0
  ·
   rw [if_pos c3] at H
   have c3b0 : ((Int.tmod a0 100) == 0) = true := beq_iff_eq.mpr c3
   have c3b1 : ((Int.tmod a0 100) != 0) = false := bne_eq_false_iff_eq.mpr c3
   clear c3
   obtain rfl := Option.some.inj H
   go_enter Tryz.func121, Tryz.ntmps121
   go_wp2
   go_ret
   exact ⟨eS, eD⟩
  ·
   rw [if_neg c3] at H
   have c3b0 : ((Int.tmod a0 100) == 0) = false := beq_eq_false_iff_ne.mpr c3
   have c3b1 : ((Int.tmod a0 100) != 0) = true := bne_iff_ne.mpr c3
   obtain rfl := Option.some.inj H
   go_enter Tryz.func121, Tryz.ntmps121
   go_wp2
   go_ret
   exact ⟨eS, eD⟩
 ·
  rw [if_neg c2] at H
  have c2b0 : ((Int.tmod a0 4) == 0) = false := beq_eq_false_iff_ne.mpr c2
  have c2b1 : ((Int.tmod a0 4) != 0) = true := bne_iff_ne.mpr c2
  obtain rfl := Option.some.inj H
  go_enter Tryz.func121, Tryz.ntmps121
  go_wp2
  go_ret
  exact ⟨eS, eD⟩
def xaW.f (a0 a1 : Int) : Option (Int) := if a1 = 2 then ((xcU.f a0).bind fun t869 => (if t869 = true then (some 29) else (some 28))) else (if a1 = 4 then (some 30) else (if a1 = 6 then (some 30) else (if a1 = 9 then (some 30) else (if a1 = 11 then (some 30) else (some 31)))))
theorem xaW.calls (a0 a1 r : Int) (w : World) (h : xaW.f a0 a1 = some r) :
  Calls Tryz.prog 100 #[.int .i64 a0, .int .i64 a1] w fun e w' => e = .returned (.int .i64 r) ∧ Drawn0 w w' := by
 have H : (if a1 = 2 then ((xcU.f a0).bind fun t869 => (if t869 = true then (some 29) else (some 28))) else (if a1 = 4 then (some 30) else (if a1 = 6 then (some 30) else (if a1 = 9 then (some 30) else (if a1 = 11 then (some 30) else (some 31)))))) = some r := h
 clear h
 by_cases c3 : a1 = 2
 ·
  rw [if_pos c3] at H
  have c3b0 : (a1 == 2) = true := beq_iff_eq.mpr c3
  have c3b1 : (a1 != 2) = false := bne_eq_false_iff_eq.mpr c3
  clear c3;replace H := Option.bind_eq_some_iff.mp H
  obtain ⟨t869, A40, H⟩ := H
  replace H : (if t869 = true then (some 29) else (some 28)) = some r := H
  have A4 := Aside0.mk A40;clear A40
  by_cases c5 : t869 = true
  ·
   subst c5
   have H1 : (some 29) = some r := by rw [if_pos rfl] at H; exact H
   clear H;have H := H1;clear H1
   obtain rfl := Option.some.inj H
   go_enter Tryz.func100, Tryz.ntmps100
   go_wp2_with (first | ((with_reducible refine gG 121 ?_); refine goA (some 9) Tryz.func121 #[.int .i64 a0] ?_; (with_reducible refine (xcU.calls a0 true _ A4.out).mono ?_); rintro e w' ⟨rfl, ⟨nd, rfl⟩⟩; refine ⟨_, rfl, ?_⟩))
   go_ret
   exact ⟨eS, eD⟩
  ·
   replace c5 := Bool.eq_false_iff.mpr c5;subst c5
   have H1 : (some 28) = some r := by rw [if_neg (show ¬ (false = true) by decide)] at H; exact H
   clear H;have H := H1;clear H1
   obtain rfl := Option.some.inj H
   go_enter Tryz.func100, Tryz.ntmps100
   go_wp2_with (first | ((with_reducible refine gG 121 ?_); refine goA (some 9) Tryz.func121 #[.int .i64 a0] ?_; (with_reducible refine (xcU.calls a0 false _ A4.out).mono ?_); rintro e w' ⟨rfl, ⟨nd, rfl⟩⟩; refine ⟨_, rfl, ?_⟩))
   go_ret
   exact ⟨eS, eD⟩
 ·
  rw [if_neg c3] at H
  have c3b0 : (a1 == 2) = false := beq_eq_false_iff_ne.mpr c3
  have c3b1 : (a1 != 2) = true := bne_iff_ne.mpr c3
  by_cases c6 : a1 = 4
  ·
   rw [if_pos c6] at H
   have c6b0 : (a1 == 4) = true := beq_iff_eq.mpr c6
   have c6b1 : (a1 != 4) = false := bne_eq_false_iff_eq.mpr c6
   clear c6
   obtain rfl := Option.some.inj H
   go_enter Tryz.func100, Tryz.ntmps100
   go_wp2
   go_ret
   exact ⟨eS, eD⟩
  ·
   rw [if_neg c6] at H
   have c6b0 : (a1 == 4) = false := beq_eq_false_iff_ne.mpr c6
   have c6b1 : (a1 != 4) = true := bne_iff_ne.mpr c6
   by_cases c7 : a1 = 6
   ·
    rw [if_pos c7] at H
    have c7b0 : (a1 == 6) = true := beq_iff_eq.mpr c7
    have c7b1 : (a1 != 6) = false := bne_eq_false_iff_eq.mpr c7
    clear c7
    obtain rfl := Option.some.inj H
    go_enter Tryz.func100, Tryz.ntmps100
    go_wp2
    go_ret
    exact ⟨eS, eD⟩
   ·
    rw [if_neg c7] at H
    have c7b0 : (a1 == 6) = false := beq_eq_false_iff_ne.mpr c7
    have c7b1 : (a1 != 6) = true := bne_iff_ne.mpr c7
    by_cases c8 : a1 = 9
    ·
     rw [if_pos c8] at H
     have c8b0 : (a1 == 9) = true := beq_iff_eq.mpr c8
     have c8b1 : (a1 != 9) = false := bne_eq_false_iff_eq.mpr c8
     clear c8
     obtain rfl := Option.some.inj H
     go_enter Tryz.func100, Tryz.ntmps100
     go_wp2
     go_ret
     exact ⟨eS, eD⟩
    ·
     rw [if_neg c8] at H
     have c8b0 : (a1 == 9) = false := beq_eq_false_iff_ne.mpr c8
     have c8b1 : (a1 != 9) = true := bne_iff_ne.mpr c8
     by_cases c9 : a1 = 11
     ·
      rw [if_pos c9] at H
      have c9b0 : (a1 == 11) = true := beq_iff_eq.mpr c9
      have c9b1 : (a1 != 11) = false := bne_eq_false_iff_eq.mpr c9
      clear c9
      obtain rfl := Option.some.inj H
      go_enter Tryz.func100, Tryz.ntmps100
      go_wp2
      go_ret
      exact ⟨eS, eD⟩
     ·
      rw [if_neg c9] at H
      have c9b0 : (a1 == 11) = false := beq_eq_false_iff_ne.mpr c9
      have c9b1 : (a1 != 11) = true := bne_iff_ne.mpr c9
      obtain rfl := Option.some.inj H
      go_enter Tryz.func100, Tryz.ntmps100
      go_wp2
      go_ret
      exact ⟨eS, eD⟩
def xcJ.f (a0 : Int) : Option (Int) := some (wrap64 ((wrap64 ((wrap64 (365 * (wrap64 (a0 - 1900)))) + (wrap64 ((wrap64 ((wrap64 (Int.tdiv (wrap64 (a0 - 1)) 4)) - (wrap64 (Int.tdiv (wrap64 (a0 - 1)) 100)))) + (wrap64 (Int.tdiv (wrap64 (a0 - 1)) 400)))))) - 460))
theorem xcJ.calls (a0 r : Int) (w : World) (h : xcJ.f a0 = some r) :
  Calls Tryz.prog 120 #[.int .i64 a0] w fun e w' => e = .returned (.int .i64 r) ∧ Drawn0 w w' := by
 have H : (some (wrap64 ((wrap64 ((wrap64 (365 * (wrap64 (a0 - 1900)))) + (wrap64 ((wrap64 ((wrap64 (Int.tdiv (wrap64 (a0 - 1)) 4)) - (wrap64 (Int.tdiv (wrap64 (a0 - 1)) 100)))) + (wrap64 (Int.tdiv (wrap64 (a0 - 1)) 400)))))) - 460))) = some r := h
 clear h
 obtain rfl := Option.some.inj H
 go_enter Tryz.func120, Tryz.ntmps120
 go_wp2
 go_ret
 exact ⟨eS, eD⟩
mutual
def xaZ.l0 : Nat → Int → Int → Option (Int × Int × Int)
  | 0, _, _ => none
  | k + 1, x0, x2 => (xcJ.f (wrap64 (x2 + 1))).bind fun t870 => (if t870 ≤ x0 then (xaZ.l0 k x0 (wrap64 (x2 + 1))) else ((xcJ.f x2).bind fun t871 => (xaZ.l1 k x2 1 (wrap64 (x0 - t871)))))
def xaZ.l1 : Nat → Int → Int → Int → Option (Int × Int × Int)
  | 0, _, _, _ => none
  | k + 1, x2, x3, x4 => (xaW.f x2 x3).bind fun t872 => (if x4 ≥ t872 then ((xaW.f x2 x3).bind fun t873 => (xaZ.l1 k x2 (wrap64 (x3 + 1)) (wrap64 (x4 - t873)))) else (some (x2, x3, wrap64 (x4 + 1))))
end
def xaZ.f (k : Nat) (a0 : Int) : Option (Int × Int × Int) := xaZ.l0 k a0 (wrap64 (1900 + (wrap64 (Int.tdiv a0 366))))
theorem xaZ.calls (k : Nat) (a0 r1 r2 r3 : Int) (w : World) (h : xaZ.f k a0 = some (r1, r2, r3)) :
  Calls Tryz.prog 99 #[.int .i64 a0] w fun e w' => e = .returned (.tuple #[.int .i64 r1, .int .i64 r2, .int .i64 r3]) ∧ Drawn0 w w' := by
 have H : (xaZ.l0 k a0 (wrap64 (1900 + (wrap64 (Int.tdiv a0 366))))) = some (r1, r2, r3) := h
 clear h;have H' := Aside0.mk H;clear H
 go_enter Tryz.func99, Tryz.ntmps99
 go_wp2
 go_loopg [2] k (fun kq v2 w' => ∃ (x2_1 : Int), v2 = .int .i64 x2_1 ∧ Aside0 (xaZ.l0 kq a0 x2_1 = some (r1, r2, r3)) ∧ Aside0 (kq ≤ k) ∧ Drawn0 w w')
 case atStart => exact ⟨(wrap64 (1900 + (wrap64 (Int.tdiv a0 366)))), eS, H', ⟨Nat.le_refl _⟩, eD⟩
 case round =>
  clear H'
  obtain ⟨x2_1, rfl, HA, HK1, ⟨m1, rfl⟩⟩ := hrel
  cases gk with
  | zero => exact absurd HA.out (by simp [xaZ.l0])
  | succ k1 =>
   have H := HA.out;clear HA
   simp only [xaZ.l0] at H
   replace H := Option.bind_eq_some_iff.mp H
   obtain ⟨t870, A20, H⟩ := H
   replace H : (if t870 ≤ a0 then (xaZ.l0 k1 a0 (wrap64 (x2_1 + 1))) else ((xcJ.f x2_1).bind fun t871 => (xaZ.l1 k1 x2_1 1 (wrap64 (a0 - t871))))) = some (r1, r2, r3) := H
   have A2 := Aside0.mk A20;clear A20
   by_cases c3 : t870 ≤ a0
   ·
    rw [if_pos c3] at H
    have c3b0 : decide (t870 ≤ a0) = true := decide_eq_true c3
    clear c3;have H' := Aside0.mk H;clear H
    go_wp2_with (first | ((with_reducible refine gG 120 ?_); refine goA (some 10) Tryz.func120 #[.int .i64 (wrap64 (x2_1 + 1))] ?_; (with_reducible refine (xcJ.calls (wrap64 (x2_1 + 1)) t870 _ A2.out).mono ?_); rintro e w' ⟨rfl, ⟨nd, rfl⟩⟩; refine ⟨_, rfl, ?_⟩))
    go_roundg k1
    case measure => have := HK1.out; omega
    case rel => exact ⟨(wrap64 (x2_1 + 1)), eS, H', ⟨by have := HK1.out; omega⟩, eD⟩
   ·
    rw [if_neg c3] at H
    have c3b0 : decide (t870 ≤ a0) = false := decide_eq_false c3
    clear c3;replace H := Option.bind_eq_some_iff.mp H
    obtain ⟨t871, A40, H⟩ := H
    replace H : (xaZ.l1 k1 x2_1 1 (wrap64 (a0 - t871))) = some (r1, r2, r3) := H
    have A4 := Aside0.mk A40;clear A40;have H' := Aside0.mk H;clear H
    go_wp2_with (first | ((with_reducible refine gG 120 ?_); refine goA (some 10) Tryz.func120 #[.int .i64 (wrap64 (x2_1 + 1))] ?_; (with_reducible refine (xcJ.calls (wrap64 (x2_1 + 1)) t870 _ A2.out).mono ?_); rintro e w' ⟨rfl, ⟨nd, rfl⟩⟩; refine ⟨_, rfl, ?_⟩) | ((with_reducible refine gG 120 ?_); refine goA (some 17) Tryz.func120 #[.int .i64 x2_1] ?_; (with_reducible refine (xcJ.calls x2_1 t871 _ A4.out).mono ?_); rintro e w' ⟨rfl, ⟨nd, rfl⟩⟩; refine ⟨_, rfl, ?_⟩))
    go_loopg [3, 4] k1 (fun kq v3 v4 w' => ∃ (x3_2 : Int) (x4_2 : Int), v3 = .int .i64 x3_2 ∧ v4 = .int .i64 x4_2 ∧ Aside0 (xaZ.l1 kq x2_1 x3_2 x4_2 = some (r1, r2, r3)) ∧ Aside0 (kq ≤ k1) ∧ Drawn0 w w')
    case atStart => exact ⟨(1), (wrap64 (a0 - t871)), eS, eS, H', ⟨Nat.le_refl _⟩, eD⟩
    case round =>
     clear H'
     obtain ⟨x3_2, x4_2, rfl, rfl, HA, HK2, ⟨m2, rfl⟩⟩ := hrel
     cases gk with
     | zero => exact absurd HA.out (by simp [xaZ.l1])
     | succ k2 =>
      have H := HA.out;clear HA
      simp only [xaZ.l1] at H
      replace H := Option.bind_eq_some_iff.mp H
      obtain ⟨t872, A50, H⟩ := H
      replace H : (if x4_2 ≥ t872 then ((xaW.f x2_1 x3_2).bind fun t873 => (xaZ.l1 k2 x2_1 (wrap64 (x3_2 + 1)) (wrap64 (x4_2 - t873)))) else (some (x2_1, x3_2, wrap64 (x4_2 + 1)))) = some (r1, r2, r3) := H
      have A5 := Aside0.mk A50;clear A50
      by_cases c6 : x4_2 ≥ t872
      ·
       rw [if_pos c6] at H
       have c6b0 : decide (t872 ≤ x4_2) = true := decide_eq_true c6
       clear c6;replace H := Option.bind_eq_some_iff.mp H
       obtain ⟨t873, A70, H⟩ := H
       replace H : (xaZ.l1 k2 x2_1 (wrap64 (x3_2 + 1)) (wrap64 (x4_2 - t873))) = some (r1, r2, r3) := H
       have A7 := Aside0.mk A70;clear A70;have H' := Aside0.mk H;clear H
       go_wp2_with (first | ((with_reducible refine gG 100 ?_); refine goA (some 22) Tryz.func100 #[.int .i64 x2_1, .int .i64 x3_2] ?_; (with_reducible refine (xaW.calls x2_1 x3_2 t872 _ A5.out).mono ?_); rintro e w' ⟨rfl, ⟨nd, rfl⟩⟩; refine ⟨_, rfl, ?_⟩) | ((with_reducible refine gG 100 ?_); refine goA (some 29) Tryz.func100 #[.int .i64 x2_1, .int .i64 x3_2] ?_; (with_reducible refine (xaW.calls x2_1 x3_2 t873 _ A7.out).mono ?_); rintro e w' ⟨rfl, ⟨nd, rfl⟩⟩; refine ⟨_, rfl, ?_⟩))
       go_roundg k2
       case measure => have := HK1.out; have := HK2.out; omega
       case rel => exact ⟨(wrap64 (x3_2 + 1)), (wrap64 (x4_2 - t873)), eS, eS, H', ⟨by have := HK1.out; have := HK2.out; omega⟩, eD⟩
      ·
       rw [if_neg c6] at H
       have c6b0 : decide (t872 ≤ x4_2) = false := decide_eq_false c6
       clear c6
       simp only [Option.some.injEq, Prod.mk.injEq] at H
       obtain ⟨rfl, rfl, rfl⟩ := H
       go_wp2_with (first | ((with_reducible refine gG 100 ?_); refine goA (some 22) Tryz.func100 #[.int .i64 x2_1, .int .i64 x3_2] ?_; (with_reducible refine (xaW.calls x2_1 x3_2 t872 _ A5.out).mono ?_); rintro e w' ⟨rfl, ⟨nd, rfl⟩⟩; refine ⟨_, rfl, ?_⟩))
       go_ret3
       exact ⟨eS, eD⟩
def xbM.f (a0 a1 : Int) : Option (Bool) := if a0 ≥ 1900 then (if a0 ≤ 2199 then (if a1 ≥ 1 then (some (decide (a1 ≤ 12))) else (some false)) else (some false)) else (some false)
theorem xbM.calls (a0 a1 : Int) (r : Bool) (w : World) (h : xbM.f a0 a1 = some r) :
  Calls Tryz.prog 101 #[.int .i64 a0, .int .i64 a1] w fun e w' => e = .returned (.bool r) ∧ Drawn0 w w' := by
 have H : (if a0 ≥ 1900 then (if a0 ≤ 2199 then (if a1 ≥ 1 then (some (decide (a1 ≤ 12))) else (some false)) else (some false)) else (some false)) = some r := h
 clear h
 by_cases c3 : a0 ≥ 1900
 ·
  rw [if_pos c3] at H
  have c3b0 : decide (1900 ≤ a0) = true := decide_eq_true c3
  clear c3
  by_cases c4 : a0 ≤ 2199
  ·
   rw [if_pos c4] at H
   have c4b0 : decide (a0 ≤ 2199) = true := decide_eq_true c4
   clear c4
   by_cases c5 : a1 ≥ 1
   ·
    rw [if_pos c5] at H
    have c5b0 : decide (1 ≤ a1) = true := decide_eq_true c5
    clear c5
    obtain rfl := Option.some.inj H
    go_enter Tryz.func101, Tryz.ntmps101
    go_wp2
    go_ret
    exact ⟨eS, eD⟩
   ·
    rw [if_neg c5] at H
    have c5b0 : decide (1 ≤ a1) = false := decide_eq_false c5
    clear c5
    obtain rfl := Option.some.inj H
    go_enter Tryz.func101, Tryz.ntmps101
    go_wp2
    go_ret
    exact ⟨eS, eD⟩
  ·
   rw [if_neg c4] at H
   have c4b0 : decide (a0 ≤ 2199) = false := decide_eq_false c4
   clear c4
   obtain rfl := Option.some.inj H
   go_enter Tryz.func101, Tryz.ntmps101
   go_wp2
   go_ret
   exact ⟨eS, eD⟩
 ·
  rw [if_neg c3] at H
  have c3b0 : decide (1900 ≤ a0) = false := decide_eq_false c3
  clear c3
  obtain rfl := Option.some.inj H
  go_enter Tryz.func101, Tryz.ntmps101
  go_wp2
  go_ret
  exact ⟨eS, eD⟩
def xaY.l0 : Nat → Int → Int → Int → Int → Option (Int)
  | 0, _, _, _, _ => none
  | k + 1, x0, x7, x15, x16 => if x16 < x15 then ((xaW.f x0 (wrap64 (x16 + 1))).bind fun t875 => (xaY.l0 k x0 (wrap64 (x7 + t875)) x15 (wrap64 (x16 + 1)))) else (some x7)
def xaY.f (k : Nat) (a0 a1 a2 : Int) : Option (Int) := (xcJ.f a0).bind fun t874 => (xaY.l0 k a0 (wrap64 ((wrap64 (t874 + a2)) - 1)) (wrap64 (a1 - 1)) 0)
theorem xaY.calls (k : Nat) (a0 a1 a2 r : Int) (w : World) (h : xaY.f k a0 a1 a2 = some r) :
  Calls Tryz.prog 102 #[.int .i64 a0, .int .i64 a1, .int .i64 a2] w fun e w' => e = .returned (.int .i64 r) ∧ Drawn0 w w' := by
 have H : ((xcJ.f a0).bind fun t874 => (xaY.l0 k a0 (wrap64 ((wrap64 (t874 + a2)) - 1)) (wrap64 (a1 - 1)) 0)) = some r := h
 clear h;replace H := Option.bind_eq_some_iff.mp H
 obtain ⟨t874, A40, H⟩ := H
 replace H : (xaY.l0 k a0 (wrap64 ((wrap64 (t874 + a2)) - 1)) (wrap64 (a1 - 1)) 0) = some r := H
 have A4 := Aside0.mk A40;clear A40;have H' := Aside0.mk H;clear H
 go_enter Tryz.func102, Tryz.ntmps102
 go_wp2_with (first | ((with_reducible refine gG 120 ?_); refine goA (some 10) Tryz.func120 #[.int .i64 a0] ?_; (with_reducible refine (xcJ.calls a0 t874 _ A4.out).mono ?_); rintro e w' ⟨rfl, ⟨nd, rfl⟩⟩; refine ⟨_, rfl, ?_⟩))
 go_loopg [7, 16] k (fun kq v7 v16 w' => ∃ (x7_1 : Int) (x16_1 : Int), v7 = .int .i64 x7_1 ∧ v16 = .int .i64 x16_1 ∧ Aside0 (xaY.l0 kq a0 x7_1 (wrap64 (a1 - 1)) x16_1 = some r) ∧ Aside0 (kq ≤ k) ∧ Drawn0 w w')
 case atStart => exact ⟨(wrap64 ((wrap64 (t874 + a2)) - 1)), (0), eS, eS, H', ⟨Nat.le_refl _⟩, eD⟩
 case round =>
  clear H'
  obtain ⟨x7_1, x16_1, rfl, rfl, HA, HK1, ⟨m1, rfl⟩⟩ := hrel
  cases gk with
  | zero => exact absurd HA.out (by simp [xaY.l0])
  | succ k1 =>
   have H := HA.out;clear HA
   simp only [xaY.l0] at H
   by_cases c5 : x16_1 < (wrap64 (a1 - 1))
   ·
    rw [if_pos c5] at H
    have c5b0 : decide (x16_1 < (wrap64 (a1 - 1))) = true := decide_eq_true c5
    clear c5;replace H := Option.bind_eq_some_iff.mp H
    obtain ⟨t875, A60, H⟩ := H
    replace H : (xaY.l0 k1 a0 (wrap64 (x7_1 + t875)) (wrap64 (a1 - 1)) (wrap64 (x16_1 + 1))) = some r := H
    have A6 := Aside0.mk A60;clear A60;have H' := Aside0.mk H;clear H
    go_wp2_with (first | ((with_reducible refine gG 100 ?_); refine goA (some 23) Tryz.func100 #[.int .i64 a0, .int .i64 (wrap64 (x16_1 + 1))] ?_; (with_reducible refine (xaW.calls a0 (wrap64 (x16_1 + 1)) t875 _ A6.out).mono ?_); rintro e w' ⟨rfl, ⟨nd, rfl⟩⟩; refine ⟨_, rfl, ?_⟩))
    go_roundg k1
    case measure => have := HK1.out; omega
    case rel => exact ⟨(wrap64 (x7_1 + t875)), (wrap64 (x16_1 + 1)), eS, eS, H', ⟨by have := HK1.out; omega⟩, eD⟩
   ·
    rw [if_neg c5] at H
    have c5b0 : decide (x16_1 < (wrap64 (a1 - 1))) = false := decide_eq_false c5
    clear c5
    obtain rfl := Option.some.inj H
    go_wp2
    go_ret
    exact ⟨eS, eD⟩
def xbF.j0 : Nat → Int → Int → Bool → Bool → Option (Int × Int)
  | 0, _, _, _, _ => none
  | k + 1, x0, x1, x2, x24 => if x24 = true then (some (0, 51)) else ((xaZ.f k x0).bind fun bt877 => ((xaW.f bt877.1 bt877.2.1).bind fun t880 => ((xbM.f (wrap64 (Int.tdiv (wrap64 ((wrap64 ((wrap64 ((wrap64 (12 * bt877.1)) + bt877.2.1)) - 1)) + x1)) 12)) (wrap64 ((Int.tmod (wrap64 ((wrap64 ((wrap64 ((wrap64 (12 * bt877.1)) + bt877.2.1)) - 1)) + x1)) 12) + 1))).bind fun t881 => (if t881 = true then ((xaW.f (wrap64 (Int.tdiv (wrap64 ((wrap64 ((wrap64 ((wrap64 (12 * bt877.1)) + bt877.2.1)) - 1)) + x1)) 12)) (wrap64 ((Int.tmod (wrap64 ((wrap64 ((wrap64 ((wrap64 (12 * bt877.1)) + bt877.2.1)) - 1)) + x1)) 12) + 1))).bind fun t882 => (if bt877.2.2 > t882 then ((xaY.f k (wrap64 (Int.tdiv (wrap64 ((wrap64 ((wrap64 ((wrap64 (12 * bt877.1)) + bt877.2.1)) - 1)) + x1)) 12)) (wrap64 ((Int.tmod (wrap64 ((wrap64 ((wrap64 ((wrap64 (12 * bt877.1)) + bt877.2.1)) - 1)) + x1)) 12) + 1)) t882).bind fun t883 => (some (t883, 0))) else (if x2 = true then (if bt877.2.2 = t880 then ((xaY.f k (wrap64 (Int.tdiv (wrap64 ((wrap64 ((wrap64 ((wrap64 (12 * bt877.1)) + bt877.2.1)) - 1)) + x1)) 12)) (wrap64 ((Int.tmod (wrap64 ((wrap64 ((wrap64 ((wrap64 (12 * bt877.1)) + bt877.2.1)) - 1)) + x1)) 12) + 1)) t882).bind fun t884 => (some (t884, 0))) else ((xaY.f k (wrap64 (Int.tdiv (wrap64 ((wrap64 ((wrap64 ((wrap64 (12 * bt877.1)) + bt877.2.1)) - 1)) + x1)) 12)) (wrap64 ((Int.tmod (wrap64 ((wrap64 ((wrap64 ((wrap64 (12 * bt877.1)) + bt877.2.1)) - 1)) + x1)) 12) + 1)) bt877.2.2).bind fun t885 => (some (t885, 0)))) else ((xaY.f k (wrap64 (Int.tdiv (wrap64 ((wrap64 ((wrap64 ((wrap64 (12 * bt877.1)) + bt877.2.1)) - 1)) + x1)) 12)) (wrap64 ((Int.tmod (wrap64 ((wrap64 ((wrap64 ((wrap64 (12 * bt877.1)) + bt877.2.1)) - 1)) + x1)) 12) + 1)) bt877.2.2).bind fun t886 => (some (t886, 0)))))) else (some (0, 51))))))
def xbF.f (k : Nat) (a0 a1 : Int) (a2 : Bool) : Option (Int × Int) := (xdY.f a0).bind fun t876 => (if t876 = true then (if a1 < (-4000) then (xbF.j0 k a0 a1 a2 true) else (xbF.j0 k a0 a1 a2 (decide (a1 > 4000)))) else (xbF.j0 k a0 a1 a2 true))
theorem xbF.calls (k : Nat) (a0 a1 : Int) (a2 : Bool) (r1 r2 : Int) (w : World) (h : xbF.f k a0 a1 a2 = some (r1, r2)) :
  Calls Tryz.prog 79 #[.int .i64 a0, .int .i64 a1, .bool a2] w fun e w' => e = .returned (.tuple #[.int .i64 r1, .int .i64 r2]) ∧ Drawn0 w w' := by
 have H : ((xdY.f a0).bind fun t876 => (if t876 = true then (if a1 < (-4000) then (xbF.j0 k a0 a1 a2 true) else (xbF.j0 k a0 a1 a2 (decide (a1 > 4000)))) else (xbF.j0 k a0 a1 a2 true))) = some (r1, r2) := h
 clear h;have HC4 := Aside0.mk H;clear H
 go_enter Tryz.func79, Tryz.ntmps79
 go_upto_region 1 with (fail)
 go_cut [24] (fun v24 wc => ∃ (kq : Nat) (x24_3 : Bool), v24 = .bool x24_3 ∧ Aside0 (xbF.j0 kq a0 a1 a2 x24_3 = some (r1, r2)) ∧ Aside0 (kq ≤ k) ∧ Drawn0 w wc)
 case first =>
  have H := HC4.out;clear HC4;replace H := Option.bind_eq_some_iff.mp H
  obtain ⟨t876, A50, H⟩ := H
  replace H : (if t876 = true then (if a1 < (-4000) then (xbF.j0 k a0 a1 a2 true) else (xbF.j0 k a0 a1 a2 (decide (a1 > 4000)))) else (xbF.j0 k a0 a1 a2 true)) = some (r1, r2) := H
  have A5 := Aside0.mk A50;clear A50
  by_cases c6 : t876 = true
  ·
   subst c6
   have H1 : (if a1 < (-4000) then (xbF.j0 k a0 a1 a2 true) else (xbF.j0 k a0 a1 a2 (decide (a1 > 4000)))) = some (r1, r2) := by rw [if_pos rfl] at H; exact H
   clear H;have H := H1;clear H1
   by_cases c7 : a1 < (-4000)
   ·
    rw [if_pos c7] at H
    have c7b0 : decide (a1 < (-4000)) = true := decide_eq_true c7
    clear c7
    (first | rw [c7b0] | (simp only [i64_w, i32_w]; rw [c7b0]) | skip)
    have H' := Aside0.mk H;clear H
    go_wp2_with (first | ((with_reducible refine gG 98 ?_); refine goA (some 15) Tryz.func98 #[.int .i64 a0] ?_; (with_reducible refine (xdY.calls a0 true _ A5.out).mono ?_); rintro e w' ⟨rfl, ⟨nd, rfl⟩⟩; refine ⟨_, rfl, ?_⟩))
    go_meet
    case rel => exact ⟨_, (true), eS, H', ⟨eN⟩, eD⟩
   ·
    rw [if_neg c7] at H
    have c7b0 : decide (a1 < (-4000)) = false := decide_eq_false c7
    clear c7
    (first | rw [c7b0] | (simp only [i64_w, i32_w]; rw [c7b0]) | skip)
    have H' := Aside0.mk H;clear H
    go_wp2_with (first | ((with_reducible refine gG 98 ?_); refine goA (some 15) Tryz.func98 #[.int .i64 a0] ?_; (with_reducible refine (xdY.calls a0 true _ A5.out).mono ?_); rintro e w' ⟨rfl, ⟨nd, rfl⟩⟩; refine ⟨_, rfl, ?_⟩))
    go_meet
    case rel => exact ⟨_, (decide (a1 > 4000)), eS, H', ⟨eN⟩, eD⟩
  ·
   replace c6 := Bool.eq_false_iff.mpr c6;subst c6
   have H1 : (xbF.j0 k a0 a1 a2 true) = some (r1, r2) := by rw [if_neg (show ¬ (false = true) by decide)] at H; exact H
   clear H;have H := H1;clear H1;have H' := Aside0.mk H;clear H
   go_wp2_with (first | ((with_reducible refine gG 98 ?_); refine goA (some 15) Tryz.func98 #[.int .i64 a0] ?_; (with_reducible refine (xdY.calls a0 false _ A5.out).mono ?_); rintro e w' ⟨rfl, ⟨nd, rfl⟩⟩; refine ⟨_, rfl, ?_⟩))
   go_meet
   case rel => exact ⟨_, (true), eS, H', ⟨eN⟩, eD⟩
 case rest =>
  clear HC4
  obtain ⟨kq, x24_3, rfl, HA, HJ3, ⟨mc3, rfl⟩⟩ := hcut
  cases kq with
  | zero => exact absurd HA.out (by simp [xbF.j0])
  | succ kj3 =>
   have H := HA.out;clear HA
   simp only [xbF.j0] at H
   by_cases c8 : x24_3 = true
   ·
    subst c8
    have H1 : (some (0, 51)) = some (r1, r2) := by rw [if_pos rfl] at H; exact H
    clear H;have H := H1;clear H1
    simp only [Option.some.injEq, Prod.mk.injEq] at H
    obtain ⟨rfl, rfl⟩ := H
    go_wp2
    go_ret2
    exact ⟨eS, eD⟩
   ·
    replace c8 := Bool.eq_false_iff.mpr c8;subst c8
    have H1 : ((xaZ.f kj3 a0).bind fun bt877 => ((xaW.f bt877.1 bt877.2.1).bind fun t880 => ((xbM.f (wrap64 (Int.tdiv (wrap64 ((wrap64 ((wrap64 ((wrap64 (12 * bt877.1)) + bt877.2.1)) - 1)) + a1)) 12)) (wrap64 ((Int.tmod (wrap64 ((wrap64 ((wrap64 ((wrap64 (12 * bt877.1)) + bt877.2.1)) - 1)) + a1)) 12) + 1))).bind fun t881 => (if t881 = true then ((xaW.f (wrap64 (Int.tdiv (wrap64 ((wrap64 ((wrap64 ((wrap64 (12 * bt877.1)) + bt877.2.1)) - 1)) + a1)) 12)) (wrap64 ((Int.tmod (wrap64 ((wrap64 ((wrap64 ((wrap64 (12 * bt877.1)) + bt877.2.1)) - 1)) + a1)) 12) + 1))).bind fun t882 => (if bt877.2.2 > t882 then ((xaY.f kj3 (wrap64 (Int.tdiv (wrap64 ((wrap64 ((wrap64 ((wrap64 (12 * bt877.1)) + bt877.2.1)) - 1)) + a1)) 12)) (wrap64 ((Int.tmod (wrap64 ((wrap64 ((wrap64 ((wrap64 (12 * bt877.1)) + bt877.2.1)) - 1)) + a1)) 12) + 1)) t882).bind fun t883 => (some (t883, 0))) else (if a2 = true then (if bt877.2.2 = t880 then ((xaY.f kj3 (wrap64 (Int.tdiv (wrap64 ((wrap64 ((wrap64 ((wrap64 (12 * bt877.1)) + bt877.2.1)) - 1)) + a1)) 12)) (wrap64 ((Int.tmod (wrap64 ((wrap64 ((wrap64 ((wrap64 (12 * bt877.1)) + bt877.2.1)) - 1)) + a1)) 12) + 1)) t882).bind fun t884 => (some (t884, 0))) else ((xaY.f kj3 (wrap64 (Int.tdiv (wrap64 ((wrap64 ((wrap64 ((wrap64 (12 * bt877.1)) + bt877.2.1)) - 1)) + a1)) 12)) (wrap64 ((Int.tmod (wrap64 ((wrap64 ((wrap64 ((wrap64 (12 * bt877.1)) + bt877.2.1)) - 1)) + a1)) 12) + 1)) bt877.2.2).bind fun t885 => (some (t885, 0)))) else ((xaY.f kj3 (wrap64 (Int.tdiv (wrap64 ((wrap64 ((wrap64 ((wrap64 (12 * bt877.1)) + bt877.2.1)) - 1)) + a1)) 12)) (wrap64 ((Int.tmod (wrap64 ((wrap64 ((wrap64 ((wrap64 (12 * bt877.1)) + bt877.2.1)) - 1)) + a1)) 12) + 1)) bt877.2.2).bind fun t886 => (some (t886, 0)))))) else (some (0, 51)))))) = some (r1, r2) := by rw [if_neg (show ¬ (false = true) by decide)] at H; exact H
    clear H;have H := H1;clear H1;replace H := Option.bind_eq_some_iff.mp H
    obtain ⟨⟨t877, t878, t879⟩, A90, H⟩ := H
    replace H : ((xaW.f t877 t878).bind fun t880 => ((xbM.f (wrap64 (Int.tdiv (wrap64 ((wrap64 ((wrap64 ((wrap64 (12 * t877)) + t878)) - 1)) + a1)) 12)) (wrap64 ((Int.tmod (wrap64 ((wrap64 ((wrap64 ((wrap64 (12 * t877)) + t878)) - 1)) + a1)) 12) + 1))).bind fun t881 => (if t881 = true then ((xaW.f (wrap64 (Int.tdiv (wrap64 ((wrap64 ((wrap64 ((wrap64 (12 * t877)) + t878)) - 1)) + a1)) 12)) (wrap64 ((Int.tmod (wrap64 ((wrap64 ((wrap64 ((wrap64 (12 * t877)) + t878)) - 1)) + a1)) 12) + 1))).bind fun t882 => (if t879 > t882 then ((xaY.f kj3 (wrap64 (Int.tdiv (wrap64 ((wrap64 ((wrap64 ((wrap64 (12 * t877)) + t878)) - 1)) + a1)) 12)) (wrap64 ((Int.tmod (wrap64 ((wrap64 ((wrap64 ((wrap64 (12 * t877)) + t878)) - 1)) + a1)) 12) + 1)) t882).bind fun t883 => (some (t883, 0))) else (if a2 = true then (if t879 = t880 then ((xaY.f kj3 (wrap64 (Int.tdiv (wrap64 ((wrap64 ((wrap64 ((wrap64 (12 * t877)) + t878)) - 1)) + a1)) 12)) (wrap64 ((Int.tmod (wrap64 ((wrap64 ((wrap64 ((wrap64 (12 * t877)) + t878)) - 1)) + a1)) 12) + 1)) t882).bind fun t884 => (some (t884, 0))) else ((xaY.f kj3 (wrap64 (Int.tdiv (wrap64 ((wrap64 ((wrap64 ((wrap64 (12 * t877)) + t878)) - 1)) + a1)) 12)) (wrap64 ((Int.tmod (wrap64 ((wrap64 ((wrap64 ((wrap64 (12 * t877)) + t878)) - 1)) + a1)) 12) + 1)) t879).bind fun t885 => (some (t885, 0)))) else ((xaY.f kj3 (wrap64 (Int.tdiv (wrap64 ((wrap64 ((wrap64 ((wrap64 (12 * t877)) + t878)) - 1)) + a1)) 12)) (wrap64 ((Int.tmod (wrap64 ((wrap64 ((wrap64 ((wrap64 (12 * t877)) + t878)) - 1)) + a1)) 12) + 1)) t879).bind fun t886 => (some (t886, 0)))))) else (some (0, 51))))) = some (r1, r2) := H
    have A9 := Aside0.mk A90;clear A90;replace H := Option.bind_eq_some_iff.mp H
    obtain ⟨t880, A100, H⟩ := H
    replace H : ((xbM.f (wrap64 (Int.tdiv (wrap64 ((wrap64 ((wrap64 ((wrap64 (12 * t877)) + t878)) - 1)) + a1)) 12)) (wrap64 ((Int.tmod (wrap64 ((wrap64 ((wrap64 ((wrap64 (12 * t877)) + t878)) - 1)) + a1)) 12) + 1))).bind fun t881 => (if t881 = true then ((xaW.f (wrap64 (Int.tdiv (wrap64 ((wrap64 ((wrap64 ((wrap64 (12 * t877)) + t878)) - 1)) + a1)) 12)) (wrap64 ((Int.tmod (wrap64 ((wrap64 ((wrap64 ((wrap64 (12 * t877)) + t878)) - 1)) + a1)) 12) + 1))).bind fun t882 => (if t879 > t882 then ((xaY.f kj3 (wrap64 (Int.tdiv (wrap64 ((wrap64 ((wrap64 ((wrap64 (12 * t877)) + t878)) - 1)) + a1)) 12)) (wrap64 ((Int.tmod (wrap64 ((wrap64 ((wrap64 ((wrap64 (12 * t877)) + t878)) - 1)) + a1)) 12) + 1)) t882).bind fun t883 => (some (t883, 0))) else (if a2 = true then (if t879 = t880 then ((xaY.f kj3 (wrap64 (Int.tdiv (wrap64 ((wrap64 ((wrap64 ((wrap64 (12 * t877)) + t878)) - 1)) + a1)) 12)) (wrap64 ((Int.tmod (wrap64 ((wrap64 ((wrap64 ((wrap64 (12 * t877)) + t878)) - 1)) + a1)) 12) + 1)) t882).bind fun t884 => (some (t884, 0))) else ((xaY.f kj3 (wrap64 (Int.tdiv (wrap64 ((wrap64 ((wrap64 ((wrap64 (12 * t877)) + t878)) - 1)) + a1)) 12)) (wrap64 ((Int.tmod (wrap64 ((wrap64 ((wrap64 ((wrap64 (12 * t877)) + t878)) - 1)) + a1)) 12) + 1)) t879).bind fun t885 => (some (t885, 0)))) else ((xaY.f kj3 (wrap64 (Int.tdiv (wrap64 ((wrap64 ((wrap64 ((wrap64 (12 * t877)) + t878)) - 1)) + a1)) 12)) (wrap64 ((Int.tmod (wrap64 ((wrap64 ((wrap64 ((wrap64 (12 * t877)) + t878)) - 1)) + a1)) 12) + 1)) t879).bind fun t886 => (some (t886, 0)))))) else (some (0, 51)))) = some (r1, r2) := H
    have A10 := Aside0.mk A100;clear A100;replace H := Option.bind_eq_some_iff.mp H
    obtain ⟨t881, A110, H⟩ := H
    replace H : (if t881 = true then ((xaW.f (wrap64 (Int.tdiv (wrap64 ((wrap64 ((wrap64 ((wrap64 (12 * t877)) + t878)) - 1)) + a1)) 12)) (wrap64 ((Int.tmod (wrap64 ((wrap64 ((wrap64 ((wrap64 (12 * t877)) + t878)) - 1)) + a1)) 12) + 1))).bind fun t882 => (if t879 > t882 then ((xaY.f kj3 (wrap64 (Int.tdiv (wrap64 ((wrap64 ((wrap64 ((wrap64 (12 * t877)) + t878)) - 1)) + a1)) 12)) (wrap64 ((Int.tmod (wrap64 ((wrap64 ((wrap64 ((wrap64 (12 * t877)) + t878)) - 1)) + a1)) 12) + 1)) t882).bind fun t883 => (some (t883, 0))) else (if a2 = true then (if t879 = t880 then ((xaY.f kj3 (wrap64 (Int.tdiv (wrap64 ((wrap64 ((wrap64 ((wrap64 (12 * t877)) + t878)) - 1)) + a1)) 12)) (wrap64 ((Int.tmod (wrap64 ((wrap64 ((wrap64 ((wrap64 (12 * t877)) + t878)) - 1)) + a1)) 12) + 1)) t882).bind fun t884 => (some (t884, 0))) else ((xaY.f kj3 (wrap64 (Int.tdiv (wrap64 ((wrap64 ((wrap64 ((wrap64 (12 * t877)) + t878)) - 1)) + a1)) 12)) (wrap64 ((Int.tmod (wrap64 ((wrap64 ((wrap64 ((wrap64 (12 * t877)) + t878)) - 1)) + a1)) 12) + 1)) t879).bind fun t885 => (some (t885, 0)))) else ((xaY.f kj3 (wrap64 (Int.tdiv (wrap64 ((wrap64 ((wrap64 ((wrap64 (12 * t877)) + t878)) - 1)) + a1)) 12)) (wrap64 ((Int.tmod (wrap64 ((wrap64 ((wrap64 ((wrap64 (12 * t877)) + t878)) - 1)) + a1)) 12) + 1)) t879).bind fun t886 => (some (t886, 0)))))) else (some (0, 51))) = some (r1, r2) := H
    have A11 := Aside0.mk A110;clear A110
    by_cases c12 : t881 = true
    ·
     subst c12
     have H1 : ((xaW.f (wrap64 (Int.tdiv (wrap64 ((wrap64 ((wrap64 ((wrap64 (12 * t877)) + t878)) - 1)) + a1)) 12)) (wrap64 ((Int.tmod (wrap64 ((wrap64 ((wrap64 ((wrap64 (12 * t877)) + t878)) - 1)) + a1)) 12) + 1))).bind fun t882 => (if t879 > t882 then ((xaY.f kj3 (wrap64 (Int.tdiv (wrap64 ((wrap64 ((wrap64 ((wrap64 (12 * t877)) + t878)) - 1)) + a1)) 12)) (wrap64 ((Int.tmod (wrap64 ((wrap64 ((wrap64 ((wrap64 (12 * t877)) + t878)) - 1)) + a1)) 12) + 1)) t882).bind fun t883 => (some (t883, 0))) else (if a2 = true then (if t879 = t880 then ((xaY.f kj3 (wrap64 (Int.tdiv (wrap64 ((wrap64 ((wrap64 ((wrap64 (12 * t877)) + t878)) - 1)) + a1)) 12)) (wrap64 ((Int.tmod (wrap64 ((wrap64 ((wrap64 ((wrap64 (12 * t877)) + t878)) - 1)) + a1)) 12) + 1)) t882).bind fun t884 => (some (t884, 0))) else ((xaY.f kj3 (wrap64 (Int.tdiv (wrap64 ((wrap64 ((wrap64 ((wrap64 (12 * t877)) + t878)) - 1)) + a1)) 12)) (wrap64 ((Int.tmod (wrap64 ((wrap64 ((wrap64 ((wrap64 (12 * t877)) + t878)) - 1)) + a1)) 12) + 1)) t879).bind fun t885 => (some (t885, 0)))) else ((xaY.f kj3 (wrap64 (Int.tdiv (wrap64 ((wrap64 ((wrap64 ((wrap64 (12 * t877)) + t878)) - 1)) + a1)) 12)) (wrap64 ((Int.tmod (wrap64 ((wrap64 ((wrap64 ((wrap64 (12 * t877)) + t878)) - 1)) + a1)) 12) + 1)) t879).bind fun t886 => (some (t886, 0)))))) = some (r1, r2) := by rw [if_pos rfl] at H; exact H
     clear H;have H := H1;clear H1;replace H := Option.bind_eq_some_iff.mp H
     obtain ⟨t882, A130, H⟩ := H
     replace H : (if t879 > t882 then ((xaY.f kj3 (wrap64 (Int.tdiv (wrap64 ((wrap64 ((wrap64 ((wrap64 (12 * t877)) + t878)) - 1)) + a1)) 12)) (wrap64 ((Int.tmod (wrap64 ((wrap64 ((wrap64 ((wrap64 (12 * t877)) + t878)) - 1)) + a1)) 12) + 1)) t882).bind fun t883 => (some (t883, 0))) else (if a2 = true then (if t879 = t880 then ((xaY.f kj3 (wrap64 (Int.tdiv (wrap64 ((wrap64 ((wrap64 ((wrap64 (12 * t877)) + t878)) - 1)) + a1)) 12)) (wrap64 ((Int.tmod (wrap64 ((wrap64 ((wrap64 ((wrap64 (12 * t877)) + t878)) - 1)) + a1)) 12) + 1)) t882).bind fun t884 => (some (t884, 0))) else ((xaY.f kj3 (wrap64 (Int.tdiv (wrap64 ((wrap64 ((wrap64 ((wrap64 (12 * t877)) + t878)) - 1)) + a1)) 12)) (wrap64 ((Int.tmod (wrap64 ((wrap64 ((wrap64 ((wrap64 (12 * t877)) + t878)) - 1)) + a1)) 12) + 1)) t879).bind fun t885 => (some (t885, 0)))) else ((xaY.f kj3 (wrap64 (Int.tdiv (wrap64 ((wrap64 ((wrap64 ((wrap64 (12 * t877)) + t878)) - 1)) + a1)) 12)) (wrap64 ((Int.tmod (wrap64 ((wrap64 ((wrap64 ((wrap64 (12 * t877)) + t878)) - 1)) + a1)) 12) + 1)) t879).bind fun t886 => (some (t886, 0))))) = some (r1, r2) := H
     have A13 := Aside0.mk A130;clear A130
     by_cases c14 : t879 > t882
     ·
      rw [if_pos c14] at H
      have c14b0 : decide (t882 < t879) = true := decide_eq_true c14
      clear c14;replace H := Option.bind_eq_some_iff.mp H
      obtain ⟨t883, A150, H⟩ := H
      replace H : (some (t883, 0)) = some (r1, r2) := H
      have A15 := Aside0.mk A150;clear A150
      simp only [Option.some.injEq, Prod.mk.injEq] at H
      obtain ⟨rfl, rfl⟩ := H
      go_wp2_with (first | ((with_reducible refine gG 99 ?_); refine goA (some 27) Tryz.func99 #[.int .i64 a0] ?_; (with_reducible refine (xaZ.calls kj3 a0 t877 t878 t879 _ A9.out).mono ?_); rintro e w' ⟨rfl, ⟨nd, rfl⟩⟩; refine ⟨_, rfl, ?_⟩) | ((with_reducible refine gG 100 ?_); refine goA (some 34) Tryz.func100 #[.int .i64 t877, .int .i64 t878] ?_; (with_reducible refine (xaW.calls t877 t878 t880 _ A10.out).mono ?_); rintro e w' ⟨rfl, ⟨nd, rfl⟩⟩; refine ⟨_, rfl, ?_⟩) | ((with_reducible refine gG 101 ?_); refine goA (some 50) Tryz.func101 #[.int .i64 (wrap64 (Int.tdiv (wrap64 ((wrap64 ((wrap64 ((wrap64 (12 * t877)) + t878)) - 1)) + a1)) 12)), .int .i64 (wrap64 ((Int.tmod (wrap64 ((wrap64 ((wrap64 ((wrap64 (12 * t877)) + t878)) - 1)) + a1)) 12) + 1))] ?_; (with_reducible refine (xbM.calls (wrap64 (Int.tdiv (wrap64 ((wrap64 ((wrap64 ((wrap64 (12 * t877)) + t878)) - 1)) + a1)) 12)) (wrap64 ((Int.tmod (wrap64 ((wrap64 ((wrap64 ((wrap64 (12 * t877)) + t878)) - 1)) + a1)) 12) + 1)) true _ A11.out).mono ?_); rintro e w' ⟨rfl, ⟨nd, rfl⟩⟩; refine ⟨_, rfl, ?_⟩) | ((with_reducible refine gG 100 ?_); refine goA (some 54) Tryz.func100 #[.int .i64 (wrap64 (Int.tdiv (wrap64 ((wrap64 ((wrap64 ((wrap64 (12 * t877)) + t878)) - 1)) + a1)) 12)), .int .i64 (wrap64 ((Int.tmod (wrap64 ((wrap64 ((wrap64 ((wrap64 (12 * t877)) + t878)) - 1)) + a1)) 12) + 1))] ?_; (with_reducible refine (xaW.calls (wrap64 (Int.tdiv (wrap64 ((wrap64 ((wrap64 ((wrap64 (12 * t877)) + t878)) - 1)) + a1)) 12)) (wrap64 ((Int.tmod (wrap64 ((wrap64 ((wrap64 ((wrap64 (12 * t877)) + t878)) - 1)) + a1)) 12) + 1)) t882 _ A13.out).mono ?_); rintro e w' ⟨rfl, ⟨nd, rfl⟩⟩; refine ⟨_, rfl, ?_⟩) | ((with_reducible refine gG 102 ?_); refine goA (some 68) Tryz.func102 #[.int .i64 (wrap64 (Int.tdiv (wrap64 ((wrap64 ((wrap64 ((wrap64 (12 * t877)) + t878)) - 1)) + a1)) 12)), .int .i64 (wrap64 ((Int.tmod (wrap64 ((wrap64 ((wrap64 ((wrap64 (12 * t877)) + t878)) - 1)) + a1)) 12) + 1)), .int .i64 t882] ?_; (with_reducible refine (xaY.calls kj3 (wrap64 (Int.tdiv (wrap64 ((wrap64 ((wrap64 ((wrap64 (12 * t877)) + t878)) - 1)) + a1)) 12)) (wrap64 ((Int.tmod (wrap64 ((wrap64 ((wrap64 ((wrap64 (12 * t877)) + t878)) - 1)) + a1)) 12) + 1)) t882 t883 _ A15.out).mono ?_); rintro e w' ⟨rfl, ⟨nd, rfl⟩⟩; refine ⟨_, rfl, ?_⟩))
      go_ret2
      exact ⟨eS, eD⟩
     ·
      rw [if_neg c14] at H
      have c14b0 : decide (t882 < t879) = false := decide_eq_false c14
      clear c14
      by_cases c16 : a2 = true
      ·
       subst c16
       have H1 : (if t879 = t880 then ((xaY.f kj3 (wrap64 (Int.tdiv (wrap64 ((wrap64 ((wrap64 ((wrap64 (12 * t877)) + t878)) - 1)) + a1)) 12)) (wrap64 ((Int.tmod (wrap64 ((wrap64 ((wrap64 ((wrap64 (12 * t877)) + t878)) - 1)) + a1)) 12) + 1)) t882).bind fun t884 => (some (t884, 0))) else ((xaY.f kj3 (wrap64 (Int.tdiv (wrap64 ((wrap64 ((wrap64 ((wrap64 (12 * t877)) + t878)) - 1)) + a1)) 12)) (wrap64 ((Int.tmod (wrap64 ((wrap64 ((wrap64 ((wrap64 (12 * t877)) + t878)) - 1)) + a1)) 12) + 1)) t879).bind fun t885 => (some (t885, 0)))) = some (r1, r2) := by rw [if_pos rfl] at H; exact H
       clear H;have H := H1;clear H1
       by_cases c17 : t879 = t880
       ·
        rw [if_pos c17] at H
        have c17b0 : (t879 == t880) = true := beq_iff_eq.mpr c17
        have c17b1 : (t879 != t880) = false := bne_eq_false_iff_eq.mpr c17
        clear c17;replace H := Option.bind_eq_some_iff.mp H
        obtain ⟨t884, A180, H⟩ := H
        replace H : (some (t884, 0)) = some (r1, r2) := H
        have A18 := Aside0.mk A180;clear A180
        simp only [Option.some.injEq, Prod.mk.injEq] at H
        obtain ⟨rfl, rfl⟩ := H
        go_wp2_with (first | ((with_reducible refine gG 99 ?_); refine goA (some 27) Tryz.func99 #[.int .i64 a0] ?_; (with_reducible refine (xaZ.calls kj3 a0 t877 t878 t879 _ A9.out).mono ?_); rintro e w' ⟨rfl, ⟨nd, rfl⟩⟩; refine ⟨_, rfl, ?_⟩) | ((with_reducible refine gG 100 ?_); refine goA (some 34) Tryz.func100 #[.int .i64 t877, .int .i64 t878] ?_; (with_reducible refine (xaW.calls t877 t878 t880 _ A10.out).mono ?_); rintro e w' ⟨rfl, ⟨nd, rfl⟩⟩; refine ⟨_, rfl, ?_⟩) | ((with_reducible refine gG 101 ?_); refine goA (some 50) Tryz.func101 #[.int .i64 (wrap64 (Int.tdiv (wrap64 ((wrap64 ((wrap64 ((wrap64 (12 * t877)) + t878)) - 1)) + a1)) 12)), .int .i64 (wrap64 ((Int.tmod (wrap64 ((wrap64 ((wrap64 ((wrap64 (12 * t877)) + t878)) - 1)) + a1)) 12) + 1))] ?_; (with_reducible refine (xbM.calls (wrap64 (Int.tdiv (wrap64 ((wrap64 ((wrap64 ((wrap64 (12 * t877)) + t878)) - 1)) + a1)) 12)) (wrap64 ((Int.tmod (wrap64 ((wrap64 ((wrap64 ((wrap64 (12 * t877)) + t878)) - 1)) + a1)) 12) + 1)) true _ A11.out).mono ?_); rintro e w' ⟨rfl, ⟨nd, rfl⟩⟩; refine ⟨_, rfl, ?_⟩) | ((with_reducible refine gG 100 ?_); refine goA (some 54) Tryz.func100 #[.int .i64 (wrap64 (Int.tdiv (wrap64 ((wrap64 ((wrap64 ((wrap64 (12 * t877)) + t878)) - 1)) + a1)) 12)), .int .i64 (wrap64 ((Int.tmod (wrap64 ((wrap64 ((wrap64 ((wrap64 (12 * t877)) + t878)) - 1)) + a1)) 12) + 1))] ?_; (with_reducible refine (xaW.calls (wrap64 (Int.tdiv (wrap64 ((wrap64 ((wrap64 ((wrap64 (12 * t877)) + t878)) - 1)) + a1)) 12)) (wrap64 ((Int.tmod (wrap64 ((wrap64 ((wrap64 ((wrap64 (12 * t877)) + t878)) - 1)) + a1)) 12) + 1)) t882 _ A13.out).mono ?_); rintro e w' ⟨rfl, ⟨nd, rfl⟩⟩; refine ⟨_, rfl, ?_⟩) | ((with_reducible refine gG 102 ?_); refine goA (some 68) Tryz.func102 #[.int .i64 (wrap64 (Int.tdiv (wrap64 ((wrap64 ((wrap64 ((wrap64 (12 * t877)) + t878)) - 1)) + a1)) 12)), .int .i64 (wrap64 ((Int.tmod (wrap64 ((wrap64 ((wrap64 ((wrap64 (12 * t877)) + t878)) - 1)) + a1)) 12) + 1)), .int .i64 t882] ?_; (with_reducible refine (xaY.calls kj3 (wrap64 (Int.tdiv (wrap64 ((wrap64 ((wrap64 ((wrap64 (12 * t877)) + t878)) - 1)) + a1)) 12)) (wrap64 ((Int.tmod (wrap64 ((wrap64 ((wrap64 ((wrap64 (12 * t877)) + t878)) - 1)) + a1)) 12) + 1)) t882 t884 _ A18.out).mono ?_); rintro e w' ⟨rfl, ⟨nd, rfl⟩⟩; refine ⟨_, rfl, ?_⟩))
        go_ret2
        exact ⟨eS, eD⟩
       ·
        rw [if_neg c17] at H
        have c17b0 : (t879 == t880) = false := beq_eq_false_iff_ne.mpr c17
        have c17b1 : (t879 != t880) = true := bne_iff_ne.mpr c17
        replace H := Option.bind_eq_some_iff.mp H
        obtain ⟨t885, A190, H⟩ := H
        replace H : (some (t885, 0)) = some (r1, r2) := H
        have A19 := Aside0.mk A190;clear A190
        simp only [Option.some.injEq, Prod.mk.injEq] at H
        obtain ⟨rfl, rfl⟩ := H
        go_wp2_with (first | ((with_reducible refine gG 99 ?_); refine goA (some 27) Tryz.func99 #[.int .i64 a0] ?_; (with_reducible refine (xaZ.calls kj3 a0 t877 t878 t879 _ A9.out).mono ?_); rintro e w' ⟨rfl, ⟨nd, rfl⟩⟩; refine ⟨_, rfl, ?_⟩) | ((with_reducible refine gG 100 ?_); refine goA (some 34) Tryz.func100 #[.int .i64 t877, .int .i64 t878] ?_; (with_reducible refine (xaW.calls t877 t878 t880 _ A10.out).mono ?_); rintro e w' ⟨rfl, ⟨nd, rfl⟩⟩; refine ⟨_, rfl, ?_⟩) | ((with_reducible refine gG 101 ?_); refine goA (some 50) Tryz.func101 #[.int .i64 (wrap64 (Int.tdiv (wrap64 ((wrap64 ((wrap64 ((wrap64 (12 * t877)) + t878)) - 1)) + a1)) 12)), .int .i64 (wrap64 ((Int.tmod (wrap64 ((wrap64 ((wrap64 ((wrap64 (12 * t877)) + t878)) - 1)) + a1)) 12) + 1))] ?_; (with_reducible refine (xbM.calls (wrap64 (Int.tdiv (wrap64 ((wrap64 ((wrap64 ((wrap64 (12 * t877)) + t878)) - 1)) + a1)) 12)) (wrap64 ((Int.tmod (wrap64 ((wrap64 ((wrap64 ((wrap64 (12 * t877)) + t878)) - 1)) + a1)) 12) + 1)) true _ A11.out).mono ?_); rintro e w' ⟨rfl, ⟨nd, rfl⟩⟩; refine ⟨_, rfl, ?_⟩) | ((with_reducible refine gG 100 ?_); refine goA (some 54) Tryz.func100 #[.int .i64 (wrap64 (Int.tdiv (wrap64 ((wrap64 ((wrap64 ((wrap64 (12 * t877)) + t878)) - 1)) + a1)) 12)), .int .i64 (wrap64 ((Int.tmod (wrap64 ((wrap64 ((wrap64 ((wrap64 (12 * t877)) + t878)) - 1)) + a1)) 12) + 1))] ?_; (with_reducible refine (xaW.calls (wrap64 (Int.tdiv (wrap64 ((wrap64 ((wrap64 ((wrap64 (12 * t877)) + t878)) - 1)) + a1)) 12)) (wrap64 ((Int.tmod (wrap64 ((wrap64 ((wrap64 ((wrap64 (12 * t877)) + t878)) - 1)) + a1)) 12) + 1)) t882 _ A13.out).mono ?_); rintro e w' ⟨rfl, ⟨nd, rfl⟩⟩; refine ⟨_, rfl, ?_⟩) | ((with_reducible refine gG 102 ?_); refine goA (some 68) Tryz.func102 #[.int .i64 (wrap64 (Int.tdiv (wrap64 ((wrap64 ((wrap64 ((wrap64 (12 * t877)) + t878)) - 1)) + a1)) 12)), .int .i64 (wrap64 ((Int.tmod (wrap64 ((wrap64 ((wrap64 ((wrap64 (12 * t877)) + t878)) - 1)) + a1)) 12) + 1)), .int .i64 t879] ?_; (with_reducible refine (xaY.calls kj3 (wrap64 (Int.tdiv (wrap64 ((wrap64 ((wrap64 ((wrap64 (12 * t877)) + t878)) - 1)) + a1)) 12)) (wrap64 ((Int.tmod (wrap64 ((wrap64 ((wrap64 ((wrap64 (12 * t877)) + t878)) - 1)) + a1)) 12) + 1)) t879 t885 _ A19.out).mono ?_); rintro e w' ⟨rfl, ⟨nd, rfl⟩⟩; refine ⟨_, rfl, ?_⟩))
        go_ret2
        exact ⟨eS, eD⟩
      ·
       replace c16 := Bool.eq_false_iff.mpr c16;subst c16
       have H1 : ((xaY.f kj3 (wrap64 (Int.tdiv (wrap64 ((wrap64 ((wrap64 ((wrap64 (12 * t877)) + t878)) - 1)) + a1)) 12)) (wrap64 ((Int.tmod (wrap64 ((wrap64 ((wrap64 ((wrap64 (12 * t877)) + t878)) - 1)) + a1)) 12) + 1)) t879).bind fun t886 => (some (t886, 0))) = some (r1, r2) := by rw [if_neg (show ¬ (false = true) by decide)] at H; exact H
       clear H;have H := H1;clear H1;replace H := Option.bind_eq_some_iff.mp H
       obtain ⟨t886, A200, H⟩ := H
       replace H : (some (t886, 0)) = some (r1, r2) := H
       have A20 := Aside0.mk A200;clear A200
       simp only [Option.some.injEq, Prod.mk.injEq] at H
       obtain ⟨rfl, rfl⟩ := H
       go_wp2_with (first | ((with_reducible refine gG 99 ?_); refine goA (some 27) Tryz.func99 #[.int .i64 a0] ?_; (with_reducible refine (xaZ.calls kj3 a0 t877 t878 t879 _ A9.out).mono ?_); rintro e w' ⟨rfl, ⟨nd, rfl⟩⟩; refine ⟨_, rfl, ?_⟩) | ((with_reducible refine gG 100 ?_); refine goA (some 34) Tryz.func100 #[.int .i64 t877, .int .i64 t878] ?_; (with_reducible refine (xaW.calls t877 t878 t880 _ A10.out).mono ?_); rintro e w' ⟨rfl, ⟨nd, rfl⟩⟩; refine ⟨_, rfl, ?_⟩) | ((with_reducible refine gG 101 ?_); refine goA (some 50) Tryz.func101 #[.int .i64 (wrap64 (Int.tdiv (wrap64 ((wrap64 ((wrap64 ((wrap64 (12 * t877)) + t878)) - 1)) + a1)) 12)), .int .i64 (wrap64 ((Int.tmod (wrap64 ((wrap64 ((wrap64 ((wrap64 (12 * t877)) + t878)) - 1)) + a1)) 12) + 1))] ?_; (with_reducible refine (xbM.calls (wrap64 (Int.tdiv (wrap64 ((wrap64 ((wrap64 ((wrap64 (12 * t877)) + t878)) - 1)) + a1)) 12)) (wrap64 ((Int.tmod (wrap64 ((wrap64 ((wrap64 ((wrap64 (12 * t877)) + t878)) - 1)) + a1)) 12) + 1)) true _ A11.out).mono ?_); rintro e w' ⟨rfl, ⟨nd, rfl⟩⟩; refine ⟨_, rfl, ?_⟩) | ((with_reducible refine gG 100 ?_); refine goA (some 54) Tryz.func100 #[.int .i64 (wrap64 (Int.tdiv (wrap64 ((wrap64 ((wrap64 ((wrap64 (12 * t877)) + t878)) - 1)) + a1)) 12)), .int .i64 (wrap64 ((Int.tmod (wrap64 ((wrap64 ((wrap64 ((wrap64 (12 * t877)) + t878)) - 1)) + a1)) 12) + 1))] ?_; (with_reducible refine (xaW.calls (wrap64 (Int.tdiv (wrap64 ((wrap64 ((wrap64 ((wrap64 (12 * t877)) + t878)) - 1)) + a1)) 12)) (wrap64 ((Int.tmod (wrap64 ((wrap64 ((wrap64 ((wrap64 (12 * t877)) + t878)) - 1)) + a1)) 12) + 1)) t882 _ A13.out).mono ?_); rintro e w' ⟨rfl, ⟨nd, rfl⟩⟩; refine ⟨_, rfl, ?_⟩) | ((with_reducible refine gG 102 ?_); refine goA (some 68) Tryz.func102 #[.int .i64 (wrap64 (Int.tdiv (wrap64 ((wrap64 ((wrap64 ((wrap64 (12 * t877)) + t878)) - 1)) + a1)) 12)), .int .i64 (wrap64 ((Int.tmod (wrap64 ((wrap64 ((wrap64 ((wrap64 (12 * t877)) + t878)) - 1)) + a1)) 12) + 1)), .int .i64 t879] ?_; (with_reducible refine (xaY.calls kj3 (wrap64 (Int.tdiv (wrap64 ((wrap64 ((wrap64 ((wrap64 (12 * t877)) + t878)) - 1)) + a1)) 12)) (wrap64 ((Int.tmod (wrap64 ((wrap64 ((wrap64 ((wrap64 (12 * t877)) + t878)) - 1)) + a1)) 12) + 1)) t879 t886 _ A20.out).mono ?_); rintro e w' ⟨rfl, ⟨nd, rfl⟩⟩; refine ⟨_, rfl, ?_⟩))
       go_ret2
       exact ⟨eS, eD⟩
    ·
     replace c12 := Bool.eq_false_iff.mpr c12;subst c12
     have H1 : (some (0, 51)) = some (r1, r2) := by rw [if_neg (show ¬ (false = true) by decide)] at H; exact H
     clear H;have H := H1;clear H1
     simp only [Option.some.injEq, Prod.mk.injEq] at H
     obtain ⟨rfl, rfl⟩ := H
     go_wp2_with (first | ((with_reducible refine gG 99 ?_); refine goA (some 27) Tryz.func99 #[.int .i64 a0] ?_; (with_reducible refine (xaZ.calls kj3 a0 t877 t878 t879 _ A9.out).mono ?_); rintro e w' ⟨rfl, ⟨nd, rfl⟩⟩; refine ⟨_, rfl, ?_⟩) | ((with_reducible refine gG 100 ?_); refine goA (some 34) Tryz.func100 #[.int .i64 t877, .int .i64 t878] ?_; (with_reducible refine (xaW.calls t877 t878 t880 _ A10.out).mono ?_); rintro e w' ⟨rfl, ⟨nd, rfl⟩⟩; refine ⟨_, rfl, ?_⟩) | ((with_reducible refine gG 101 ?_); refine goA (some 50) Tryz.func101 #[.int .i64 (wrap64 (Int.tdiv (wrap64 ((wrap64 ((wrap64 ((wrap64 (12 * t877)) + t878)) - 1)) + a1)) 12)), .int .i64 (wrap64 ((Int.tmod (wrap64 ((wrap64 ((wrap64 ((wrap64 (12 * t877)) + t878)) - 1)) + a1)) 12) + 1))] ?_; (with_reducible refine (xbM.calls (wrap64 (Int.tdiv (wrap64 ((wrap64 ((wrap64 ((wrap64 (12 * t877)) + t878)) - 1)) + a1)) 12)) (wrap64 ((Int.tmod (wrap64 ((wrap64 ((wrap64 ((wrap64 (12 * t877)) + t878)) - 1)) + a1)) 12) + 1)) false _ A11.out).mono ?_); rintro e w' ⟨rfl, ⟨nd, rfl⟩⟩; refine ⟨_, rfl, ?_⟩))
     go_ret2
     exact ⟨eS, eD⟩
def xbR.f (k : Nat) (a0 : Int) : Option (Int × Int × Int × Int) := (xdY.f a0).bind fun t887 => (if t887 = true then ((xaZ.f k a0).bind fun bt888 => (some (bt888.1, bt888.2.1, bt888.2.2, 0))) else (some (0, 0, 0, 51)))
theorem xbR.calls (k : Nat) (a0 r1 r2 r3 r4 : Int) (w : World) (h : xbR.f k a0 = some (r1, r2, r3, r4)) :
  Calls Tryz.prog 186 #[.int .i64 a0] w fun e w' => e = .returned (.tuple #[.int .i64 r1, .int .i64 r2, .int .i64 r3, .int .i64 r4]) ∧ Drawn0 w w' := by
 have H : ((xdY.f a0).bind fun t887 => (if t887 = true then ((xaZ.f k a0).bind fun bt888 => (some (bt888.1, bt888.2.1, bt888.2.2, 0))) else (some (0, 0, 0, 51)))) = some (r1, r2, r3, r4) := h
 clear h;replace H := Option.bind_eq_some_iff.mp H
 obtain ⟨t887, A20, H⟩ := H
 replace H : (if t887 = true then ((xaZ.f k a0).bind fun bt888 => (some (bt888.1, bt888.2.1, bt888.2.2, 0))) else (some (0, 0, 0, 51))) = some (r1, r2, r3, r4) := H
 have A2 := Aside0.mk A20;clear A20
 by_cases c3 : t887 = true
 ·
  subst c3
  have H1 : ((xaZ.f k a0).bind fun bt888 => (some (bt888.1, bt888.2.1, bt888.2.2, 0))) = some (r1, r2, r3, r4) := by rw [if_pos rfl] at H; exact H
  clear H;have H := H1;clear H1;replace H := Option.bind_eq_some_iff.mp H
  obtain ⟨⟨t888, t889, t890⟩, A40, H⟩ := H
  replace H : (some (t888, t889, t890, 0)) = some (r1, r2, r3, r4) := H
  have A4 := Aside0.mk A40;clear A40
  simp only [Option.some.injEq, Prod.mk.injEq] at H
  obtain ⟨rfl, rfl, rfl, rfl⟩ := H
  go_enter Tryz.func186, Tryz.ntmps186
  go_wp2_with (first | ((with_reducible refine gG 98 ?_); refine goA (some 7) Tryz.func98 #[.int .i64 a0] ?_; (with_reducible refine (xdY.calls a0 true _ A2.out).mono ?_); rintro e w' ⟨rfl, ⟨nd, rfl⟩⟩; refine ⟨_, rfl, ?_⟩) | ((with_reducible refine gG 99 ?_); refine goA (some 11) Tryz.func99 #[.int .i64 a0] ?_; (with_reducible refine (xaZ.calls k a0 t888 t889 t890 _ A4.out).mono ?_); rintro e w' ⟨rfl, ⟨nd, rfl⟩⟩; refine ⟨_, rfl, ?_⟩))
  refine bodyPost_ret (xhB (rs := [.tmp 2, .tmp 3, .tmp 4, .tmp 5]) rfl (by simp) (.tmp (.tmp (.tmp (.tmp .nil))))) rfl ?_
  exact ⟨eS, eD⟩
 ·
  replace c3 := Bool.eq_false_iff.mpr c3;subst c3
  have H1 : (some (0, 0, 0, 51)) = some (r1, r2, r3, r4) := by rw [if_neg (show ¬ (false = true) by decide)] at H; exact H
  clear H;have H := H1;clear H1
  simp only [Option.some.injEq, Prod.mk.injEq] at H
  obtain ⟨rfl, rfl, rfl, rfl⟩ := H
  go_enter Tryz.func186, Tryz.ntmps186
  go_wp2_with (first | ((with_reducible refine gG 98 ?_); refine goA (some 7) Tryz.func98 #[.int .i64 a0] ?_; (with_reducible refine (xdY.calls a0 false _ A2.out).mono ?_); rintro e w' ⟨rfl, ⟨nd, rfl⟩⟩; refine ⟨_, rfl, ?_⟩))
  refine bodyPost_ret (xhB (rs := [.tmp 2, .tmp 3, .tmp 4, .tmp 5]) rfl (by simp) (.tmp (.tmp (.tmp (.tmp .nil))))) rfl ?_
  exact ⟨eS, eD⟩
def xdD.f (a0 a1 : Int) : Option (Int × Int) := (xbM.f a0 a1).bind fun t891 => (if t891 = true then ((xaW.f a0 a1).bind fun t892 => (some (t892, 0))) else (some (0, 50)))
theorem xdD.calls (a0 a1 r1 r2 : Int) (w : World) (h : xdD.f a0 a1 = some (r1, r2)) :
  Calls Tryz.prog 187 #[.int .i64 a0, .int .i64 a1] w fun e w' => e = .returned (.tuple #[.int .i64 r1, .int .i64 r2]) ∧ Drawn0 w w' := by
 have H : ((xbM.f a0 a1).bind fun t891 => (if t891 = true then ((xaW.f a0 a1).bind fun t892 => (some (t892, 0))) else (some (0, 50)))) = some (r1, r2) := h
 clear h;replace H := Option.bind_eq_some_iff.mp H
 obtain ⟨t891, A30, H⟩ := H
 replace H : (if t891 = true then ((xaW.f a0 a1).bind fun t892 => (some (t892, 0))) else (some (0, 50))) = some (r1, r2) := H
 have A3 := Aside0.mk A30;clear A30
 by_cases c4 : t891 = true
 ·
  subst c4
  have H1 : ((xaW.f a0 a1).bind fun t892 => (some (t892, 0))) = some (r1, r2) := by rw [if_pos rfl] at H; exact H
  clear H;have H := H1;clear H1;replace H := Option.bind_eq_some_iff.mp H
  obtain ⟨t892, A50, H⟩ := H
  replace H : (some (t892, 0)) = some (r1, r2) := H
  have A5 := Aside0.mk A50;clear A50
  simp only [Option.some.injEq, Prod.mk.injEq] at H
  obtain ⟨rfl, rfl⟩ := H
  go_enter Tryz.func187, Tryz.ntmps187
  go_wp2_with (first | ((with_reducible refine gG 101 ?_); refine goA (some 8) Tryz.func101 #[.int .i64 a0, .int .i64 a1] ?_; (with_reducible refine (xbM.calls a0 a1 true _ A3.out).mono ?_); rintro e w' ⟨rfl, ⟨nd, rfl⟩⟩; refine ⟨_, rfl, ?_⟩) | ((with_reducible refine gG 100 ?_); refine goA (some 12) Tryz.func100 #[.int .i64 a0, .int .i64 a1] ?_; (with_reducible refine (xaW.calls a0 a1 t892 _ A5.out).mono ?_); rintro e w' ⟨rfl, ⟨nd, rfl⟩⟩; refine ⟨_, rfl, ?_⟩))
  go_ret2
  exact ⟨eS, eD⟩
 ·
  replace c4 := Bool.eq_false_iff.mpr c4;subst c4
  have H1 : (some (0, 50)) = some (r1, r2) := by rw [if_neg (show ¬ (false = true) by decide)] at H; exact H
  clear H;have H := H1;clear H1
  simp only [Option.some.injEq, Prod.mk.injEq] at H
  obtain ⟨rfl, rfl⟩ := H
  go_enter Tryz.func187, Tryz.ntmps187
  go_wp2_with (first | ((with_reducible refine gG 101 ?_); refine goA (some 8) Tryz.func101 #[.int .i64 a0, .int .i64 a1] ?_; (with_reducible refine (xbM.calls a0 a1 false _ A3.out).mono ?_); rintro e w' ⟨rfl, ⟨nd, rfl⟩⟩; refine ⟨_, rfl, ?_⟩))
  go_ret2
  exact ⟨eS, eD⟩
def xdS.f (k : Nat) (a0 a1 a2 : Int) : Option (Int × Int) := (xbM.f a0 a1).bind fun t893 => (if t893 = true then (if a2 < 1 then (some (0, 50)) else ((xaW.f a0 a1).bind fun t894 => (if a2 > t894 then (some (0, 50)) else ((xaY.f k a0 a1 a2).bind fun t895 => (some (t895, 0)))))) else (some (0, 50)))
theorem xdS.calls (k : Nat) (a0 a1 a2 r1 r2 : Int) (w : World) (h : xdS.f k a0 a1 a2 = some (r1, r2)) :
  Calls Tryz.prog 188 #[.int .i64 a0, .int .i64 a1, .int .i64 a2] w fun e w' => e = .returned (.tuple #[.int .i64 r1, .int .i64 r2]) ∧ Drawn0 w w' := by
 have H : ((xbM.f a0 a1).bind fun t893 => (if t893 = true then (if a2 < 1 then (some (0, 50)) else ((xaW.f a0 a1).bind fun t894 => (if a2 > t894 then (some (0, 50)) else ((xaY.f k a0 a1 a2).bind fun t895 => (some (t895, 0)))))) else (some (0, 50)))) = some (r1, r2) := h
 clear h;replace H := Option.bind_eq_some_iff.mp H
 obtain ⟨t893, A40, H⟩ := H
 replace H : (if t893 = true then (if a2 < 1 then (some (0, 50)) else ((xaW.f a0 a1).bind fun t894 => (if a2 > t894 then (some (0, 50)) else ((xaY.f k a0 a1 a2).bind fun t895 => (some (t895, 0)))))) else (some (0, 50))) = some (r1, r2) := H
 have A4 := Aside0.mk A40;clear A40
 by_cases c5 : t893 = true
 ·
  subst c5
  have H1 : (if a2 < 1 then (some (0, 50)) else ((xaW.f a0 a1).bind fun t894 => (if a2 > t894 then (some (0, 50)) else ((xaY.f k a0 a1 a2).bind fun t895 => (some (t895, 0)))))) = some (r1, r2) := by rw [if_pos rfl] at H; exact H
  clear H;have H := H1;clear H1
  by_cases c6 : a2 < 1
  ·
   rw [if_pos c6] at H
   have c6b0 : decide (a2 < 1) = true := decide_eq_true c6
   clear c6
   simp only [Option.some.injEq, Prod.mk.injEq] at H
   obtain ⟨rfl, rfl⟩ := H
   go_enter Tryz.func188, Tryz.ntmps188
   go_wp2_with (first | ((with_reducible refine gG 101 ?_); refine goA (some 10) Tryz.func101 #[.int .i64 a0, .int .i64 a1] ?_; (with_reducible refine (xbM.calls a0 a1 true _ A4.out).mono ?_); rintro e w' ⟨rfl, ⟨nd, rfl⟩⟩; refine ⟨_, rfl, ?_⟩))
   go_ret2
   exact ⟨eS, eD⟩
  ·
   rw [if_neg c6] at H
   have c6b0 : decide (a2 < 1) = false := decide_eq_false c6
   clear c6;replace H := Option.bind_eq_some_iff.mp H
   obtain ⟨t894, A70, H⟩ := H
   replace H : (if a2 > t894 then (some (0, 50)) else ((xaY.f k a0 a1 a2).bind fun t895 => (some (t895, 0)))) = some (r1, r2) := H
   have A7 := Aside0.mk A70;clear A70
   by_cases c8 : a2 > t894
   ·
    rw [if_pos c8] at H
    have c8b0 : decide (t894 < a2) = true := decide_eq_true c8
    clear c8
    simp only [Option.some.injEq, Prod.mk.injEq] at H
    obtain ⟨rfl, rfl⟩ := H
    go_enter Tryz.func188, Tryz.ntmps188
    go_wp2_with (first | ((with_reducible refine gG 101 ?_); refine goA (some 10) Tryz.func101 #[.int .i64 a0, .int .i64 a1] ?_; (with_reducible refine (xbM.calls a0 a1 true _ A4.out).mono ?_); rintro e w' ⟨rfl, ⟨nd, rfl⟩⟩; refine ⟨_, rfl, ?_⟩) | (go_at_call 100; (with_reducible refine (xaW.calls a0 a1 t894 _ A7.out).mono ?_); rintro e w' ⟨rfl, ⟨nd, rfl⟩⟩))
    go_ret2
    exact ⟨eS, eD⟩
   ·
    rw [if_neg c8] at H
    have c8b0 : decide (t894 < a2) = false := decide_eq_false c8
    clear c8;replace H := Option.bind_eq_some_iff.mp H
    obtain ⟨t895, A90, H⟩ := H
    replace H : (some (t895, 0)) = some (r1, r2) := H
    have A9 := Aside0.mk A90;clear A90
    simp only [Option.some.injEq, Prod.mk.injEq] at H
    obtain ⟨rfl, rfl⟩ := H
    go_enter Tryz.func188, Tryz.ntmps188
    go_wp2_with (first | ((with_reducible refine gG 101 ?_); refine goA (some 10) Tryz.func101 #[.int .i64 a0, .int .i64 a1] ?_; (with_reducible refine (xbM.calls a0 a1 true _ A4.out).mono ?_); rintro e w' ⟨rfl, ⟨nd, rfl⟩⟩; refine ⟨_, rfl, ?_⟩) | (go_at_call 100; (with_reducible refine (xaW.calls a0 a1 t894 _ A7.out).mono ?_); rintro e w' ⟨rfl, ⟨nd, rfl⟩⟩) | ((with_reducible refine gG 102 ?_); refine goA (some 26) Tryz.func102 #[.int .i64 a0, .int .i64 a1, .int .i64 a2] ?_; (with_reducible refine (xaY.calls k a0 a1 a2 t895 _ A9.out).mono ?_); rintro e w' ⟨rfl, ⟨nd, rfl⟩⟩; refine ⟨_, rfl, ?_⟩))
    go_ret2
    exact ⟨eS, eD⟩
 ·
  replace c5 := Bool.eq_false_iff.mpr c5;subst c5
  have H1 : (some (0, 50)) = some (r1, r2) := by rw [if_neg (show ¬ (false = true) by decide)] at H; exact H
  clear H;have H := H1;clear H1
  simp only [Option.some.injEq, Prod.mk.injEq] at H
  obtain ⟨rfl, rfl⟩ := H
  go_enter Tryz.func188, Tryz.ntmps188
  go_wp2_with (first | ((with_reducible refine gG 101 ?_); refine goA (some 10) Tryz.func101 #[.int .i64 a0, .int .i64 a1] ?_; (with_reducible refine (xbM.calls a0 a1 false _ A4.out).mono ?_); rintro e w' ⟨rfl, ⟨nd, rfl⟩⟩; refine ⟨_, rfl, ?_⟩))
  go_ret2
  exact ⟨eS, eD⟩
def xdN.f (k : Nat) (a0 a1 : Int) : Option (Int × Int) := (xbM.f a0 a1).bind fun t896 => (if t896 = true then ((xaY.f k a0 a1 15).bind fun t897 => (some (wrap64 (t897 + (Int.tmod (wrap64 (9 - (Int.tmod t897 7))) 7)), 0))) else (some (0, 50)))
theorem xdN.calls (k : Nat) (a0 a1 r1 r2 : Int) (w : World) (h : xdN.f k a0 a1 = some (r1, r2)) :
  Calls Tryz.prog 189 #[.int .i64 a0, .int .i64 a1] w fun e w' => e = .returned (.tuple #[.int .i64 r1, .int .i64 r2]) ∧ Drawn0 w w' := by
 have H : ((xbM.f a0 a1).bind fun t896 => (if t896 = true then ((xaY.f k a0 a1 15).bind fun t897 => (some (wrap64 (t897 + (Int.tmod (wrap64 (9 - (Int.tmod t897 7))) 7)), 0))) else (some (0, 50)))) = some (r1, r2) := h
 clear h;replace H := Option.bind_eq_some_iff.mp H
 obtain ⟨t896, A30, H⟩ := H
 replace H : (if t896 = true then ((xaY.f k a0 a1 15).bind fun t897 => (some (wrap64 (t897 + (Int.tmod (wrap64 (9 - (Int.tmod t897 7))) 7)), 0))) else (some (0, 50))) = some (r1, r2) := H
 have A3 := Aside0.mk A30;clear A30
 by_cases c4 : t896 = true
 ·
  subst c4
  have H1 : ((xaY.f k a0 a1 15).bind fun t897 => (some (wrap64 (t897 + (Int.tmod (wrap64 (9 - (Int.tmod t897 7))) 7)), 0))) = some (r1, r2) := by rw [if_pos rfl] at H; exact H
  clear H;have H := H1;clear H1;replace H := Option.bind_eq_some_iff.mp H
  obtain ⟨t897, A50, H⟩ := H
  replace H : (some (wrap64 (t897 + (Int.tmod (wrap64 (9 - (Int.tmod t897 7))) 7)), 0)) = some (r1, r2) := H
  have A5 := Aside0.mk A50;clear A50
  simp only [Option.some.injEq, Prod.mk.injEq] at H
  obtain ⟨rfl, rfl⟩ := H
  go_enter Tryz.func189, Tryz.ntmps189
  go_wp2_with (first | ((with_reducible refine gG 101 ?_); refine goA (some 9) Tryz.func101 #[.int .i64 a0, .int .i64 a1] ?_; (with_reducible refine (xbM.calls a0 a1 true _ A3.out).mono ?_); rintro e w' ⟨rfl, ⟨nd, rfl⟩⟩; refine ⟨_, rfl, ?_⟩) | ((with_reducible refine gG 102 ?_); refine goA (some 13) Tryz.func102 #[.int .i64 a0, .int .i64 a1, .int .i64 15] ?_; (with_reducible refine (xaY.calls k a0 a1 15 t897 _ A5.out).mono ?_); rintro e w' ⟨rfl, ⟨nd, rfl⟩⟩; refine ⟨_, rfl, ?_⟩))
  go_ret2
  exact ⟨eS, eD⟩
 ·
  replace c4 := Bool.eq_false_iff.mpr c4;subst c4
  have H1 : (some (0, 50)) = some (r1, r2) := by rw [if_neg (show ¬ (false = true) by decide)] at H; exact H
  clear H;have H := H1;clear H1
  simp only [Option.some.injEq, Prod.mk.injEq] at H
  obtain ⟨rfl, rfl⟩ := H
  go_enter Tryz.func189, Tryz.ntmps189
  go_wp2_with (first | ((with_reducible refine gG 101 ?_); refine goA (some 9) Tryz.func101 #[.int .i64 a0, .int .i64 a1] ?_; (with_reducible refine (xbM.calls a0 a1 false _ A3.out).mono ?_); rintro e w' ⟨rfl, ⟨nd, rfl⟩⟩; refine ⟨_, rfl, ?_⟩))
  go_ret2
  exact ⟨eS, eD⟩
end Go.Proofs.YtkabcgmegljebaaGreatDoor.Q
