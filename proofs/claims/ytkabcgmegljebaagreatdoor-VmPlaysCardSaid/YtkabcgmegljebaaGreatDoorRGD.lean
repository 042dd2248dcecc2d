/- Contracts and facts of functions of the program, joined in one text. -/
import Derived.Test.YtkabcgmegljebaaGreatDoorRGA
import Derived.Test.YtkabcgmegljebaaGreatDoorRGB
set_option maxHeartbeats 8000000
set_option maxRecDepth 100000
set_option linter.unusedVariables false
set_option linter.unusedSimpArgs false
namespace Go.Proofs.YtkabcgmegljebaaGreatDoor.Q
open Go.RowKit Go.Proofs.YtkabcgmegljebaaGreatDoorW.PrintWords Go.Proofs.YtkabcgmegljebaaGreatDoorW.PrintLast Go.Proofs.YtkabcgmegljebaaGreatDoorW.PrintMore
attribute [local go_sem] xbV xbT xcM xcL xbN xbM xbU xbS
def xdT.f (a0 : Int) : Option (Bool) := if a0 ≥ 0 then (some (decide (a0 ≤ 109572))) else (some false)
theorem xdT.calls (a0 : Int) (r : Bool) (w : World) (h : xdT.f a0 = some r) :
  Calls Tryz.prog 98 #[.int .i64 a0] w fun e w' => e = .returned (.bool r) ∧ xcG w w' := by
 have H : (if a0 ≥ 0 then (some (decide (a0 ≤ 109572))) else (some false)) = some r := h
 clear h
 by_cases c2 : a0 ≥ 0
 ·
  rw [if_pos c2] at H
  have c2b0 : decide (0 ≤ a0) = true := decide_eq_true c2
  clear c2
  obtain rfl := Option.some.inj H
  go_enter Tryz.func98, Tryz.ntmps98
  go_wp2
  go_ret
  exact ⟨eS, eD⟩
 ·
  rw [if_neg c2] at H
  have c2b0 : decide (0 ≤ a0) = false := decide_eq_false c2
  clear c2
  obtain rfl := Option.some.inj H
  go_enter Tryz.func98, Tryz.ntmps98
  go_wp2
  go_ret
  exact ⟨eS, eD⟩
def xcE.f (a0 : Int) : Option (Bool) := if (Int.tmod a0 4) = 0 then (if (Int.tmod a0 100) = 0 then (some ((Int.tmod a0 400) == 0)) else (some true)) else (some false)
theorem xcE.calls (a0 : Int) (r : Bool) (w : World) (h : xcE.f a0 = some r) :
  Calls Tryz.prog 121 #[.int .i64 a0] w fun e w' => e = .returned (.bool r) ∧ xcG w w' := by
 have H : (if (Int.tmod a0 4) = 0 then (if (Int.tmod a0 100) = 0 then (some ((Int.tmod a0 400) == 0)) else (some true)) else (some false)) = some r := h
 clear h
 by_cases c2 : (Int.tmod a0 4) = 0
 ·
  rw [if_pos c2] at H
  have c2b0 : ((Int.tmod a0 4) == 0) = true := beq_iff_eq.mpr c2
  have c2b1 : ((Int.tmod a0 4) != 0) = false := bne_eq_false_iff_eq.mpr c2
  clear c2
  by_cases c3 : (Int.tmod a0 100) = 0
  ·
   rw [if_pos c3] at H
   have c3b0 : ((Int.tmod a0 100) == 0) = true := beq_iff_eq.mpr c3
   have c3b1 : ((Int.tmod a0 100) != 0) = false := bne_eq_false_iff_eq.mpr c3
   clear c3
   obtain rfl := Option.some.inj H
   go_enter Tryz.func121, Tryz.ntmps121
   go_wp2
   go_ret
   exact ⟨eS, eD⟩
  ·
   rw [if_neg c3] at H
   have c3b0 : ((Int.tmod a0 100) == 0) = false := beq_eq_false_iff_ne.mpr c3
   have c3b1 : ((Int.tmod a0 100) != 0) = true := bne_iff_ne.mpr c3
   obtain rfl := Option.some.inj H
   go_enter Tryz.func121, Tryz.ntmps121
   go_wp2
   go_ret
   exact ⟨eS, eD⟩
 ·
  rw [if_neg c2] at H
  have c2b0 : ((Int.tmod a0 4) == 0) = false := beq_eq_false_iff_ne.mpr c2
  have c2b1 : ((Int.tmod a0 4) != 0) = true := bne_iff_ne.mpr c2
  obtain rfl := Option.some.inj H
  go_enter Tryz.func121, Tryz.ntmps121
  go_wp2
  go_ret
  exact ⟨eS, eD⟩
def xaU.f (a0 a1 : Int) : Option (Int) := if a1 = 2 then ((xcE.f a0).bind fun t869 => (if t869 = true then (some 29) else (some 28))) else (if a1 = 4 then (some 30) else (if a1 = 6 then (some 30) else (if a1 = 9 then (some 30) else (if a1 = 11 then (some 30) else (some 31)))))
theorem xaU.calls (a0 a1 r : Int) (w : World) (h : xaU.f a0 a1 = some r) :
  Calls Tryz.prog 100 #[.int .i64 a0, .int .i64 a1] w fun e w' => e = .returned (.int .i64 r) ∧ xcG w w' := by
 have H : (if a1 = 2 then ((xcE.f a0).bind fun t869 => (if t869 = true then (some 29) else (some 28))) else (if a1 = 4 then (some 30) else (if a1 = 6 then (some 30) else (if a1 = 9 then (some 30) else (if a1 = 11 then (some 30) else (some 31)))))) = some r := h
 clear h
 by_cases c3 : a1 = 2
 ·
  rw [if_pos c3] at H
  have c3b0 : (a1 == 2) = true := beq_iff_eq.mpr c3
  have c3b1 : (a1 != 2) = false := bne_eq_false_iff_eq.mpr c3
  clear c3;replace H := Option.bind_eq_some_iff.mp H
  obtain ⟨t869, A40, H⟩ := H
  replace H : (if t869 = true then (some 29) else (some 28)) = some r := H
  have A4 := am A40;clear A40
  by_cases c5 : t869 = true
  ·
   subst c5
   have H1 : (some 29) = some r := by rw [if_pos rfl] at H; exact H
   clear H;have H := H1;clear H1
   obtain rfl := Option.some.inj H
   go_enter Tryz.func100, Tryz.ntmps100
   go_wp2_with (first | ((with_reducible refine gG 121 ?_); refine goA (some 9) Tryz.func121 #[.int .i64 a0] ?_; (with_reducible refine (xcE.calls a0 true _ A4.out).mono ?_); rintro e w' ⟨rfl, ⟨nd, rfl⟩⟩; refine ⟨_, rfl, ?_⟩))
   go_ret
   exact ⟨eS, eD⟩
  ·
   replace c5 := Bool.eq_false_iff.mpr c5;subst c5
   have H1 : (some 28) = some r := by rw [if_neg (show ¬ (false = true) by decide)] at H; exact H
   clear H;have H := H1;clear H1
   obtain rfl := Option.some.inj H
   go_enter Tryz.func100, Tryz.ntmps100
   go_wp2_with (first | ((with_reducible refine gG 121 ?_); refine goA (some 9) Tryz.func121 #[.int .i64 a0] ?_; (with_reducible refine (xcE.calls a0 false _ A4.out).mono ?_); rintro e w' ⟨rfl, ⟨nd, rfl⟩⟩; refine ⟨_, rfl, ?_⟩))
   go_ret
   exact ⟨eS, eD⟩
 ·
  rw [if_neg c3] at H
  have c3b0 : (a1 == 2) = false := beq_eq_false_iff_ne.mpr c3
  have c3b1 : (a1 != 2) = true := bne_iff_ne.mpr c3
  by_cases c6 : a1 = 4
  ·
   rw [if_pos c6] at H
   have c6b0 : (a1 == 4) = true := beq_iff_eq.mpr c6
   have c6b1 : (a1 != 4) = false := bne_eq_false_iff_eq.mpr c6
   clear c6
   obtain rfl := Option.some.inj H
   go_enter Tryz.func100, Tryz.ntmps100
   go_wp2
   go_ret
   exact ⟨eS, eD⟩
  ·
   rw [if_neg c6] at H
   have c6b0 : (a1 == 4) = false := beq_eq_false_iff_ne.mpr c6
   have c6b1 : (a1 != 4) = true := bne_iff_ne.mpr c6
   by_cases c7 : a1 = 6
   ·
    rw [if_pos c7] at H
    have c7b0 : (a1 == 6) = true := beq_iff_eq.mpr c7
    have c7b1 : (a1 != 6) = false := bne_eq_false_iff_eq.mpr c7
    clear c7
    obtain rfl := Option.some.inj H
    go_enter Tryz.func100, Tryz.ntmps100
    go_wp2
    go_ret
    exact ⟨eS, eD⟩
   ·
    rw [if_neg c7] at H
    have c7b0 : (a1 == 6) = false := beq_eq_false_iff_ne.mpr c7
    have c7b1 : (a1 != 6) = true := bne_iff_ne.mpr c7
    by_cases c8 : a1 = 9
    ·
     rw [if_pos c8] at H
     have c8b0 : (a1 == 9) = true := beq_iff_eq.mpr c8
     have c8b1 : (a1 != 9) = false := bne_eq_false_iff_eq.mpr c8
     clear c8
     obtain rfl := Option.some.inj H
     go_enter Tryz.func100, Tryz.ntmps100
     go_wp2
     go_ret
     exact ⟨eS, eD⟩
    ·
     rw [if_neg c8] at H
     have c8b0 : (a1 == 9) = false := beq_eq_false_iff_ne.mpr c8
     have c8b1 : (a1 != 9) = true := bne_iff_ne.mpr c8
     by_cases c9 : a1 = 11
     ·
      rw [if_pos c9] at H
      have c9b0 : (a1 == 11) = true := beq_iff_eq.mpr c9
      have c9b1 : (a1 != 11) = false := bne_eq_false_iff_eq.mpr c9
      clear c9
      obtain rfl := Option.some.inj H
      go_enter Tryz.func100, Tryz.ntmps100
      go_wp2
      go_ret
      exact ⟨eS, eD⟩
     ·
      rw [if_neg c9] at H
      have c9b0 : (a1 == 11) = false := beq_eq_false_iff_ne.mpr c9
      have c9b1 : (a1 != 11) = true := bne_iff_ne.mpr c9
      obtain rfl := Option.some.inj H
      go_enter Tryz.func100, Tryz.ntmps100
      go_wp2
      go_ret
      exact ⟨eS, eD⟩
def xbQ.f (a0 : Int) : Option (Int) := some (wrap64 ((wrap64 ((wrap64 (365 * (wrap64 (a0 - 1900)))) + (wrap64 ((wrap64 ((wrap64 (Int.tdiv (wrap64 (a0 - 1)) 4)) - (wrap64 (Int.tdiv (wrap64 (a0 - 1)) 100)))) + (wrap64 (Int.tdiv (wrap64 (a0 - 1)) 400)))))) - 460))
theorem xbQ.calls (a0 r : Int) (w : World) (h : xbQ.f a0 = some r) :
  Calls Tryz.prog 120 #[.int .i64 a0] w fun e w' => e = .returned (.int .i64 r) ∧ xcG w w' := by
 have H : (some (wrap64 ((wrap64 ((wrap64 (365 * (wrap64 (a0 - 1900)))) + (wrap64 ((wrap64 ((wrap64 (Int.tdiv (wrap64 (a0 - 1)) 4)) - (wrap64 (Int.tdiv (wrap64 (a0 - 1)) 100)))) + (wrap64 (Int.tdiv (wrap64 (a0 - 1)) 400)))))) - 460))) = some r := h
 clear h
 obtain rfl := Option.some.inj H
 go_enter Tryz.func120, Tryz.ntmps120
 go_wp2
 go_ret
 exact ⟨eS, eD⟩
mutual
def xaX.l0 : Nat → Int → Int → Option (Int × Int × Int)
  | 0, _, _ => none
  | k + 1, x0, x2 => (xbQ.f (wrap64 (x2 + 1))).bind fun t870 => (if t870 ≤ x0 then (xaX.l0 k x0 (wrap64 (x2 + 1))) else ((xbQ.f x2).bind fun t871 => (xaX.l1 k x2 1 (wrap64 (x0 - t871)))))
def xaX.l1 : Nat → Int → Int → Int → Option (Int × Int × Int)
  | 0, _, _, _ => none
  | k + 1, x2, x3, x4 => (xaU.f x2 x3).bind fun t872 => (if x4 ≥ t872 then ((xaU.f x2 x3).bind fun t873 => (xaX.l1 k x2 (wrap64 (x3 + 1)) (wrap64 (x4 - t873)))) else (some (x2, x3, wrap64 (x4 + 1))))
end
def xaX.f (k : Nat) (a0 : Int) : Option (Int × Int × Int) := xaX.l0 k a0 (wrap64 (1900 + (wrap64 (Int.tdiv a0 366))))
theorem xaX.calls (k : Nat) (a0 r1 r2 r3 : Int) (w : World) (h : xaX.f k a0 = some (r1, r2, r3)) :
  Calls Tryz.prog 99 #[.int .i64 a0] w fun e w' => e = .returned (.tuple #[.int .i64 r1, .int .i64 r2, .int .i64 r3]) ∧ xcG w w' := by
 have H : (xaX.l0 k a0 (wrap64 (1900 + (wrap64 (Int.tdiv a0 366))))) = some (r1, r2, r3) := h
 clear h;have H' := am H;clear H
 go_enter Tryz.func99, Tryz.ntmps99
 go_wp2
 go_loopg [2] k (fun kq v2 w' => ∃ (x2_1 : Int), v2 = .int .i64 x2_1 ∧ xaA (xaX.l0 kq a0 x2_1 = some (r1, r2, r3)) ∧ xaA (kq ≤ k) ∧ xcG w w')
 case atStart => exact ⟨(wrap64 (1900 + (wrap64 (Int.tdiv a0 366)))), eS, H', ⟨Nat.le_refl _⟩, eD⟩
 case round =>
  clear H'
  obtain ⟨x2_1, rfl, HA, HK1, ⟨m1, rfl⟩⟩ := hrel
  cases gk with
  | zero => exact absurd HA.out (by simp [xaX.l0])
  | succ k1 =>
   have H := HA.out;clear HA
   simp only [xaX.l0] at H
   replace H := Option.bind_eq_some_iff.mp H
   obtain ⟨t870, A20, H⟩ := H
   replace H : (if t870 ≤ a0 then (xaX.l0 k1 a0 (wrap64 (x2_1 + 1))) else ((xbQ.f x2_1).bind fun t871 => (xaX.l1 k1 x2_1 1 (wrap64 (a0 - t871))))) = some (r1, r2, r3) := H
   have A2 := am A20;clear A20
   by_cases c3 : t870 ≤ a0
   ·
    rw [if_pos c3] at H
    have c3b0 : decide (t870 ≤ a0) = true := decide_eq_true c3
    clear c3;have H' := am H;clear H
    go_wp2_with (first | ((with_reducible refine gG 120 ?_); refine goA (some 10) Tryz.func120 #[.int .i64 (wrap64 (x2_1 + 1))] ?_; (with_reducible refine (xbQ.calls (wrap64 (x2_1 + 1)) t870 _ A2.out).mono ?_); rintro e w' ⟨rfl, ⟨nd, rfl⟩⟩; refine ⟨_, rfl, ?_⟩))
    go_roundg k1
    case measure => have := HK1.out; omega
    case rel => exact ⟨(wrap64 (x2_1 + 1)), eS, H', ⟨by have := HK1.out; omega⟩, eD⟩
   ·
    rw [if_neg c3] at H
    have c3b0 : decide (t870 ≤ a0) = false := decide_eq_false c3
    clear c3;replace H := Option.bind_eq_some_iff.mp H
    obtain ⟨t871, A40, H⟩ := H
    replace H : (xaX.l1 k1 x2_1 1 (wrap64 (a0 - t871))) = some (r1, r2, r3) := H
    have A4 := am A40;clear A40;have H' := am H;clear H
    go_wp2_with (first | ((with_reducible refine gG 120 ?_); refine goA (some 10) Tryz.func120 #[.int .i64 (wrap64 (x2_1 + 1))] ?_; (with_reducible refine (xbQ.calls (wrap64 (x2_1 + 1)) t870 _ A2.out).mono ?_); rintro e w' ⟨rfl, ⟨nd, rfl⟩⟩; refine ⟨_, rfl, ?_⟩) | ((with_reducible refine gG 120 ?_); refine goA (some 17) Tryz.func120 #[.int .i64 x2_1] ?_; (with_reducible refine (xbQ.calls x2_1 t871 _ A4.out).mono ?_); rintro e w' ⟨rfl, ⟨nd, rfl⟩⟩; refine ⟨_, rfl, ?_⟩))
    go_loopg [3, 4] k1 (fun kq v3 v4 w' => ∃ (x3_2 : Int) (x4_2 : Int), v3 = .int .i64 x3_2 ∧ v4 = .int .i64 x4_2 ∧ xaA (xaX.l1 kq x2_1 x3_2 x4_2 = some (r1, r2, r3)) ∧ xaA (kq ≤ k1) ∧ xcG w w')
    case atStart => exact ⟨(1), (wrap64 (a0 - t871)), eS, eS, H', ⟨Nat.le_refl _⟩, eD⟩
    case round =>
     clear H'
     obtain ⟨x3_2, x4_2, rfl, rfl, HA, HK2, ⟨m2, rfl⟩⟩ := hrel
     cases gk with
     | zero => exact absurd HA.out (by simp [xaX.l1])
     | succ k2 =>
      have H := HA.out;clear HA
      simp only [xaX.l1] at H
      replace H := Option.bind_eq_some_iff.mp H
      obtain ⟨t872, A50, H⟩ := H
      replace H : (if x4_2 ≥ t872 then ((xaU.f x2_1 x3_2).bind fun t873 => (xaX.l1 k2 x2_1 (wrap64 (x3_2 + 1)) (wrap64 (x4_2 - t873)))) else (some (x2_1, x3_2, wrap64 (x4_2 + 1)))) = some (r1, r2, r3) := H
      have A5 := am A50;clear A50
      by_cases c6 : x4_2 ≥ t872
      ·
       rw [if_pos c6] at H
       have c6b0 : decide (t872 ≤ x4_2) = true := decide_eq_true c6
       clear c6;replace H := Option.bind_eq_some_iff.mp H
       obtain ⟨t873, A70, H⟩ := H
       replace H : (xaX.l1 k2 x2_1 (wrap64 (x3_2 + 1)) (wrap64 (x4_2 - t873))) = some (r1, r2, r3) := H
       have A7 := am A70;clear A70;have H' := am H;clear H
       go_wp2_with (first | ((with_reducible refine gG 100 ?_); refine goA (some 22) Tryz.func100 #[.int .i64 x2_1, .int .i64 x3_2] ?_; (with_reducible refine (xaU.calls x2_1 x3_2 t872 _ A5.out).mono ?_); rintro e w' ⟨rfl, ⟨nd, rfl⟩⟩; refine ⟨_, rfl, ?_⟩) | ((with_reducible refine gG 100 ?_); refine goA (some 29) Tryz.func100 #[.int .i64 x2_1, .int .i64 x3_2] ?_; (with_reducible refine (xaU.calls x2_1 x3_2 t873 _ A7.out).mono ?_); rintro e w' ⟨rfl, ⟨nd, rfl⟩⟩; refine ⟨_, rfl, ?_⟩))
       go_roundg k2
       case measure => have := HK1.out; have := HK2.out; omega
       case rel => exact ⟨(wrap64 (x3_2 + 1)), (wrap64 (x4_2 - t873)), eS, eS, H', ⟨by have := HK1.out; have := HK2.out; omega⟩, eD⟩
      ·
       rw [if_neg c6] at H
       have c6b0 : decide (t872 ≤ x4_2) = false := decide_eq_false c6
       clear c6
       simp only [Option.some.injEq, Prod.mk.injEq] at H
       obtain ⟨rfl, rfl, rfl⟩ := H
       go_wp2_with (first | ((with_reducible refine gG 100 ?_); refine goA (some 22) Tryz.func100 #[.int .i64 x2_1, .int .i64 x3_2] ?_; (with_reducible refine (xaU.calls x2_1 x3_2 t872 _ A5.out).mono ?_); rintro e w' ⟨rfl, ⟨nd, rfl⟩⟩; refine ⟨_, rfl, ?_⟩))
       go_ret3
       exact ⟨eS, eD⟩
def xbG.f (a0 a1 : Int) : Option (Bool) := if a0 ≥ 1900 then (if a0 ≤ 2199 then (if a1 ≥ 1 then (some (decide (a1 ≤ 12))) else (some false)) else (some false)) else (some false)
theorem xbG.calls (a0 a1 : Int) (r : Bool) (w : World) (h : xbG.f a0 a1 = some r) :
  Calls Tryz.prog 101 #[.int .i64 a0, .int .i64 a1] w fun e w' => e = .returned (.bool r) ∧ xcG w w' := by
 have H : (if a0 ≥ 1900 then (if a0 ≤ 2199 then (if a1 ≥ 1 then (some (decide (a1 ≤ 12))) else (some false)) else (some false)) else (some false)) = some r := h
 clear h
 by_cases c3 : a0 ≥ 1900
 ·
  rw [if_pos c3] at H
  have c3b0 : decide (1900 ≤ a0) = true := decide_eq_true c3
  clear c3
  by_cases c4 : a0 ≤ 2199
  ·
   rw [if_pos c4] at H
   have c4b0 : decide (a0 ≤ 2199) = true := decide_eq_true c4
   clear c4
   by_cases c5 : a1 ≥ 1
   ·
    rw [if_pos c5] at H
    have c5b0 : decide (1 ≤ a1) = true := decide_eq_true c5
    clear c5
    obtain rfl := Option.some.inj H
    go_enter Tryz.func101, Tryz.ntmps101
    go_wp2
    go_ret
    exact ⟨eS, eD⟩
   ·
    rw [if_neg c5] at H
    have c5b0 : decide (1 ≤ a1) = false := decide_eq_false c5
    clear c5
    obtain rfl := Option.some.inj H
    go_enter Tryz.func101, Tryz.ntmps101
    go_wp2
    go_ret
    exact ⟨eS, eD⟩
  ·
   rw [if_neg c4] at H
   have c4b0 : decide (a0 ≤ 2199) = false := decide_eq_false c4
   clear c4
   obtain rfl := Option.some.inj H
   go_enter Tryz.func101, Tryz.ntmps101
   go_wp2
   go_ret
   exact ⟨eS, eD⟩
 ·
  rw [if_neg c3] at H
  have c3b0 : decide (1900 ≤ a0) = false := decide_eq_false c3
  clear c3
  obtain rfl := Option.some.inj H
  go_enter Tryz.func101, Tryz.ntmps101
  go_wp2
  go_ret
  exact ⟨eS, eD⟩
def xaV.l0 : Nat → Int → Int → Int → Int → Option (Int)
  | 0, _, _, _, _ => none
  | k + 1, x0, x7, x15, x16 => if x16 < x15 then ((xaU.f x0 (wrap64 (x16 + 1))).bind fun t875 => (xaV.l0 k x0 (wrap64 (x7 + t875)) x15 (wrap64 (x16 + 1)))) else (some x7)
def xaV.f (k : Nat) (a0 a1 a2 : Int) : Option (Int) := (xbQ.f a0).bind fun t874 => (xaV.l0 k a0 (wrap64 ((wrap64 (t874 + a2)) - 1)) (wrap64 (a1 - 1)) 0)
theorem xaV.calls (k : Nat) (a0 a1 a2 r : Int) (w : World) (h : xaV.f k a0 a1 a2 = some r) :
  Calls Tryz.prog 102 #[.int .i64 a0, .int .i64 a1, .int .i64 a2] w fun e w' => e = .returned (.int .i64 r) ∧ xcG w w' := by
 have H : ((xbQ.f a0).bind fun t874 => (xaV.l0 k a0 (wrap64 ((wrap64 (t874 + a2)) - 1)) (wrap64 (a1 - 1)) 0)) = some r := h
 clear h;replace H := Option.bind_eq_some_iff.mp H
 obtain ⟨t874, A40, H⟩ := H
 replace H : (xaV.l0 k a0 (wrap64 ((wrap64 (t874 + a2)) - 1)) (wrap64 (a1 - 1)) 0) = some r := H
 have A4 := am A40;clear A40;have H' := am H;clear H
 go_enter Tryz.func102, Tryz.ntmps102
 go_wp2_with (first | ((with_reducible refine gG 120 ?_); refine goA (some 10) Tryz.func120 #[.int .i64 a0] ?_; (with_reducible refine (xbQ.calls a0 t874 _ A4.out).mono ?_); rintro e w' ⟨rfl, ⟨nd, rfl⟩⟩; refine ⟨_, rfl, ?_⟩))
 go_loopg [7, 16] k (fun kq v7 v16 w' => ∃ (x7_1 : Int) (x16_1 : Int), v7 = .int .i64 x7_1 ∧ v16 = .int .i64 x16_1 ∧ xaA (xaV.l0 kq a0 x7_1 (wrap64 (a1 - 1)) x16_1 = some r) ∧ xaA (kq ≤ k) ∧ xcG w w')
 case atStart => exact ⟨(wrap64 ((wrap64 (t874 + a2)) - 1)), (0), eS, eS, H', ⟨Nat.le_refl _⟩, eD⟩
 case round =>
  clear H'
  obtain ⟨x7_1, x16_1, rfl, rfl, HA, HK1, ⟨m1, rfl⟩⟩ := hrel
  cases gk with
  | zero => exact absurd HA.out (by simp [xaV.l0])
  | succ k1 =>
   have H := HA.out;clear HA
   simp only [xaV.l0] at H
   by_cases c5 : x16_1 < (wrap64 (a1 - 1))
   ·
    rw [if_pos c5] at H
    have c5b0 : decide (x16_1 < (wrap64 (a1 - 1))) = true := decide_eq_true c5
    clear c5;replace H := Option.bind_eq_some_iff.mp H
    obtain ⟨t875, A60, H⟩ := H
    replace H : (xaV.l0 k1 a0 (wrap64 (x7_1 + t875)) (wrap64 (a1 - 1)) (wrap64 (x16_1 + 1))) = some r := H
    have A6 := am A60;clear A60;have H' := am H;clear H
    go_wp2_with (first | ((with_reducible refine gG 100 ?_); refine goA (some 23) Tryz.func100 #[.int .i64 a0, .int .i64 (wrap64 (x16_1 + 1))] ?_; (with_reducible refine (xaU.calls a0 (wrap64 (x16_1 + 1)) t875 _ A6.out).mono ?_); rintro e w' ⟨rfl, ⟨nd, rfl⟩⟩; refine ⟨_, rfl, ?_⟩))
    go_roundg k1
    case measure => have := HK1.out; omega
    case rel => exact ⟨(wrap64 (x7_1 + t875)), (wrap64 (x16_1 + 1)), eS, eS, H', ⟨by have := HK1.out; omega⟩, eD⟩
   ·
    rw [if_neg c5] at H
    have c5b0 : decide (x16_1 < (wrap64 (a1 - 1))) = false := decide_eq_false c5
    clear c5
    obtain rfl := Option.some.inj H
    go_wp2
    go_ret
    exact ⟨eS, eD⟩
def xbA.j0 : Nat → Int → Int → Bool → Bool → Option (Int × Int)
  | 0, _, _, _, _ => none
  | k + 1, x0, x1, x2, x24 => if x24 = true then (some (0, 51)) else ((xaX.f k x0).bind fun bt877 => ((xaU.f bt877.1 bt877.2.1).bind fun t880 => ((xbG.f (wrap64 (Int.tdiv (wrap64 ((wrap64 ((wrap64 ((wrap64 (12 * bt877.1)) + bt877.2.1)) - 1)) + x1)) 12)) (wrap64 ((Int.tmod (wrap64 ((wrap64 ((wrap64 ((wrap64 (12 * bt877.1)) + bt877.2.1)) - 1)) + x1)) 12) + 1))).bind fun t881 => (if t881 = true then ((xaU.f (wrap64 (Int.tdiv (wrap64 ((wrap64 ((wrap64 ((wrap64 (12 * bt877.1)) + bt877.2.1)) - 1)) + x1)) 12)) (wrap64 ((Int.tmod (wrap64 ((wrap64 ((wrap64 ((wrap64 (12 * bt877.1)) + bt877.2.1)) - 1)) + x1)) 12) + 1))).bind fun t882 => (if bt877.2.2 > t882 then ((xaV.f k (wrap64 (Int.tdiv (wrap64 ((wrap64 ((wrap64 ((wrap64 (12 * bt877.1)) + bt877.2.1)) - 1)) + x1)) 12)) (wrap64 ((Int.tmod (wrap64 ((wrap64 ((wrap64 ((wrap64 (12 * bt877.1)) + bt877.2.1)) - 1)) + x1)) 12) + 1)) t882).bind fun t883 => (some (t883, 0))) else (if x2 = true then (if bt877.2.2 = t880 then ((xaV.f k (wrap64 (Int.tdiv (wrap64 ((wrap64 ((wrap64 ((wrap64 (12 * bt877.1)) + bt877.2.1)) - 1)) + x1)) 12)) (wrap64 ((Int.tmod (wrap64 ((wrap64 ((wrap64 ((wrap64 (12 * bt877.1)) + bt877.2.1)) - 1)) + x1)) 12) + 1)) t882).bind fun t884 => (some (t884, 0))) else ((xaV.f k (wrap64 (Int.tdiv (wrap64 ((wrap64 ((wrap64 ((wrap64 (12 * bt877.1)) + bt877.2.1)) - 1)) + x1)) 12)) (wrap64 ((Int.tmod (wrap64 ((wrap64 ((wrap64 ((wrap64 (12 * bt877.1)) + bt877.2.1)) - 1)) + x1)) 12) + 1)) bt877.2.2).bind fun t885 => (some (t885, 0)))) else ((xaV.f k (wrap64 (Int.tdiv (wrap64 ((wrap64 ((wrap64 ((wrap64 (12 * bt877.1)) + bt877.2.1)) - 1)) + x1)) 12)) (wrap64 ((Int.tmod (wrap64 ((wrap64 ((wrap64 ((wrap64 (12 * bt877.1)) + bt877.2.1)) - 1)) + x1)) 12) + 1)) bt877.2.2).bind fun t886 => (some (t886, 0)))))) else (some (0, 51))))))
def xbA.f (k : Nat) (a0 a1 : Int) (a2 : Bool) : Option (Int × Int) := (xdT.f a0).bind fun t876 => (if t876 = true then (if a1 < (-4000) then (xbA.j0 k a0 a1 a2 true) else (xbA.j0 k a0 a1 a2 (decide (a1 > 4000)))) else (xbA.j0 k a0 a1 a2 true))
theorem xbA.calls (k : Nat) (a0 a1 : Int) (a2 : Bool) (r1 r2 : Int) (w : World) (h : xbA.f k a0 a1 a2 = some (r1, r2)) :
  Calls Tryz.prog 79 #[.int .i64 a0, .int .i64 a1, .bool a2] w fun e w' => e = .returned (.tuple #[.int .i64 r1, .int .i64 r2]) ∧ xcG w w' := by
 have H : ((xdT.f a0).bind fun t876 => (if t876 = true then (if a1 < (-4000) then (xbA.j0 k a0 a1 a2 true) else (xbA.j0 k a0 a1 a2 (decide (a1 > 4000)))) else (xbA.j0 k a0 a1 a2 true))) = some (r1, r2) := h
 clear h;have HC4 := am H;clear H
 go_enter Tryz.func79, Tryz.ntmps79
 go_upto_region 1 with (fail)
 go_cut [24] (fun v24 wc => ∃ (kq : Nat) (x24_3 : Bool), v24 = .bool x24_3 ∧ xaA (xbA.j0 kq a0 a1 a2 x24_3 = some (r1, r2)) ∧ xaA (kq ≤ k) ∧ xcG w wc)
 case first =>
  have H := HC4.out;clear HC4;replace H := Option.bind_eq_some_iff.mp H
  obtain ⟨t876, A50, H⟩ := H
  replace H : (if t876 = true then (if a1 < (-4000) then (xbA.j0 k a0 a1 a2 true) else (xbA.j0 k a0 a1 a2 (decide (a1 > 4000)))) else (xbA.j0 k a0 a1 a2 true)) = some (r1, r2) := H
  have A5 := am A50;clear A50
  by_cases c6 : t876 = true
  ·
   subst c6
   have H1 : (if a1 < (-4000) then (xbA.j0 k a0 a1 a2 true) else (xbA.j0 k a0 a1 a2 (decide (a1 > 4000)))) = some (r1, r2) := by rw [if_pos rfl] at H; exact H
   clear H;have H := H1;clear H1
   by_cases c7 : a1 < (-4000)
   ·
    rw [if_pos c7] at H
    have c7b0 : decide (a1 < (-4000)) = true := decide_eq_true c7
    clear c7
    (first | rw [c7b0] | (simp only [i64_w, i32_w]; rw [c7b0]) | skip)
    have H' := am H;clear H
    go_wp2_with (first | ((with_reducible refine gG 98 ?_); refine goA (some 15) Tryz.func98 #[.int .i64 a0] ?_; (with_reducible refine (xdT.calls a0 true _ A5.out).mono ?_); rintro e w' ⟨rfl, ⟨nd, rfl⟩⟩; refine ⟨_, rfl, ?_⟩))
    go_meet
    case rel => exact ⟨_, (true), eS, H', ⟨eN⟩, eD⟩
   ·
    rw [if_neg c7] at H
    have c7b0 : decide (a1 < (-4000)) = false := decide_eq_false c7
    clear c7
    (first | rw [c7b0] | (simp only [i64_w, i32_w]; rw [c7b0]) | skip)
    have H' := am H;clear H
    go_wp2_with (first | ((with_reducible refine gG 98 ?_); refine goA (some 15) Tryz.func98 #[.int .i64 a0] ?_; (with_reducible refine (xdT.calls a0 true _ A5.out).mono ?_); rintro e w' ⟨rfl, ⟨nd, rfl⟩⟩; refine ⟨_, rfl, ?_⟩))
    go_meet
    case rel => exact ⟨_, (decide (a1 > 4000)), eS, H', ⟨eN⟩, eD⟩
  ·
   replace c6 := Bool.eq_false_iff.mpr c6;subst c6
   have H1 : (xbA.j0 k a0 a1 a2 true) = some (r1, r2) := by rw [if_neg (show ¬ (false = true) by decide)] at H; exact H
   clear H;have H := H1;clear H1;have H' := am H;clear H
   go_wp2_with (first | ((with_reducible refine gG 98 ?_); refine goA (some 15) Tryz.func98 #[.int .i64 a0] ?_; (with_reducible refine (xdT.calls a0 false _ A5.out).mono ?_); rintro e w' ⟨rfl, ⟨nd, rfl⟩⟩; refine ⟨_, rfl, ?_⟩))
   go_meet
   case rel => exact ⟨_, (true), eS, H', ⟨eN⟩, eD⟩
 case rest =>
  clear HC4
  obtain ⟨kq, x24_3, rfl, HA, HJ3, ⟨mc3, rfl⟩⟩ := hcut
  cases kq with
  | zero => exact absurd HA.out (by simp [xbA.j0])
  | succ kj3 =>
   have H := HA.out;clear HA
   simp only [xbA.j0] at H
   by_cases c8 : x24_3 = true
   ·
    subst c8
    have H1 : (some (0, 51)) = some (r1, r2) := by rw [if_pos rfl] at H; exact H
    clear H;have H := H1;clear H1
    simp only [Option.some.injEq, Prod.mk.injEq] at H
    obtain ⟨rfl, rfl⟩ := H
    go_wp2
    go_ret2
    exact ⟨eS, eD⟩
   ·
    replace c8 := Bool.eq_false_iff.mpr c8;subst c8
    have H1 : ((xaX.f kj3 a0).bind fun bt877 => ((xaU.f bt877.1 bt877.2.1).bind fun t880 => ((xbG.f (wrap64 (Int.tdiv (wrap64 ((wrap64 ((wrap64 ((wrap64 (12 * bt877.1)) + bt877.2.1)) - 1)) + a1)) 12)) (wrap64 ((Int.tmod (wrap64 ((wrap64 ((wrap64 ((wrap64 (12 * bt877.1)) + bt877.2.1)) - 1)) + a1)) 12) + 1))).bind fun t881 => (if t881 = true then ((xaU.f (wrap64 (Int.tdiv (wrap64 ((wrap64 ((wrap64 ((wrap64 (12 * bt877.1)) + bt877.2.1)) - 1)) + a1)) 12)) (wrap64 ((Int.tmod (wrap64 ((wrap64 ((wrap64 ((wrap64 (12 * bt877.1)) + bt877.2.1)) - 1)) + a1)) 12) + 1))).bind fun t882 => (if bt877.2.2 > t882 then ((xaV.f kj3 (wrap64 (Int.tdiv (wrap64 ((wrap64 ((wrap64 ((wrap64 (12 * bt877.1)) + bt877.2.1)) - 1)) + a1)) 12)) (wrap64 ((Int.tmod (wrap64 ((wrap64 ((wrap64 ((wrap64 (12 * bt877.1)) + bt877.2.1)) - 1)) + a1)) 12) + 1)) t882).bind fun t883 => (some (t883, 0))) else (if a2 = true then (if bt877.2.2 = t880 then ((xaV.f kj3 (wrap64 (Int.tdiv (wrap64 ((wrap64 ((wrap64 ((wrap64 (12 * bt877.1)) + bt877.2.1)) - 1)) + a1)) 12)) (wrap64 ((Int.tmod (wrap64 ((wrap64 ((wrap64 ((wrap64 (12 * bt877.1)) + bt877.2.1)) - 1)) + a1)) 12) + 1)) t882).bind fun t884 => (some (t884, 0))) else ((xaV.f kj3 (wrap64 (Int.tdiv (wrap64 ((wrap64 ((wrap64 ((wrap64 (12 * bt877.1)) + bt877.2.1)) - 1)) + a1)) 12)) (wrap64 ((Int.tmod (wrap64 ((wrap64 ((wrap64 ((wrap64 (12 * bt877.1)) + bt877.2.1)) - 1)) + a1)) 12) + 1)) bt877.2.2).bind fun t885 => (some (t885, 0)))) else ((xaV.f kj3 (wrap64 (Int.tdiv (wrap64 ((wrap64 ((wrap64 ((wrap64 (12 * bt877.1)) + bt877.2.1)) - 1)) + a1)) 12)) (wrap64 ((Int.tmod (wrap64 ((wrap64 ((wrap64 ((wrap64 (12 * bt877.1)) + bt877.2.1)) - 1)) + a1)) 12) + 1)) bt877.2.2).bind fun t886 => (some (t886, 0)))))) else (some (0, 51)))))) = some (r1, r2) := by rw [if_neg (show ¬ (false = true) by decide)] at H; exact H
    clear H;have H := H1;clear H1;replace H := Option.bind_eq_some_iff.mp H
    obtain ⟨⟨t877, t878, t879⟩, A90, H⟩ := H
    replace H : ((xaU.f t877 t878).bind fun t880 => ((xbG.f (wrap64 (Int.tdiv (wrap64 ((wrap64 ((wrap64 ((wrap64 (12 * t877)) + t878)) - 1)) + a1)) 12)) (wrap64 ((Int.tmod (wrap64 ((wrap64 ((wrap64 ((wrap64 (12 * t877)) + t878)) - 1)) + a1)) 12) + 1))).bind fun t881 => (if t881 = true then ((xaU.f (wrap64 (Int.tdiv (wrap64 ((wrap64 ((wrap64 ((wrap64 (12 * t877)) + t878)) - 1)) + a1)) 12)) (wrap64 ((Int.tmod (wrap64 ((wrap64 ((wrap64 ((wrap64 (12 * t877)) + t878)) - 1)) + a1)) 12) + 1))).bind fun t882 => (if t879 > t882 then ((xaV.f kj3 (wrap64 (Int.tdiv (wrap64 ((wrap64 ((wrap64 ((wrap64 (12 * t877)) + t878)) - 1)) + a1)) 12)) (wrap64 ((Int.tmod (wrap64 ((wrap64 ((wrap64 ((wrap64 (12 * t877)) + t878)) - 1)) + a1)) 12) + 1)) t882).bind fun t883 => (some (t883, 0))) else (if a2 = true then (if t879 = t880 then ((xaV.f kj3 (wrap64 (Int.tdiv (wrap64 ((wrap64 ((wrap64 ((wrap64 (12 * t877)) + t878)) - 1)) + a1)) 12)) (wrap64 ((Int.tmod (wrap64 ((wrap64 ((wrap64 ((wrap64 (12 * t877)) + t878)) - 1)) + a1)) 12) + 1)) t882).bind fun t884 => (some (t884, 0))) else ((xaV.f kj3 (wrap64 (Int.tdiv (wrap64 ((wrap64 ((wrap64 ((wrap64 (12 * t877)) + t878)) - 1)) + a1)) 12)) (wrap64 ((Int.tmod (wrap64 ((wrap64 ((wrap64 ((wrap64 (12 * t877)) + t878)) - 1)) + a1)) 12) + 1)) t879).bind fun t885 => (some (t885, 0)))) else ((xaV.f kj3 (wrap64 (Int.tdiv (wrap64 ((wrap64 ((wrap64 ((wrap64 (12 * t877)) + t878)) - 1)) + a1)) 12)) (wrap64 ((Int.tmod (wrap64 ((wrap64 ((wrap64 ((wrap64 (12 * t877)) + t878)) - 1)) + a1)) 12) + 1)) t879).bind fun t886 => (some (t886, 0)))))) else (some (0, 51))))) = some (r1, r2) := H
    have A9 := am A90;clear A90;replace H := Option.bind_eq_some_iff.mp H
    obtain ⟨t880, A100, H⟩ := H
    replace H : ((xbG.f (wrap64 (Int.tdiv (wrap64 ((wrap64 ((wrap64 ((wrap64 (12 * t877)) + t878)) - 1)) + a1)) 12)) (wrap64 ((Int.tmod (wrap64 ((wrap64 ((wrap64 ((wrap64 (12 * t877)) + t878)) - 1)) + a1)) 12) + 1))).bind fun t881 => (if t881 = true then ((xaU.f (wrap64 (Int.tdiv (wrap64 ((wrap64 ((wrap64 ((wrap64 (12 * t877)) + t878)) - 1)) + a1)) 12)) (wrap64 ((Int.tmod (wrap64 ((wrap64 ((wrap64 ((wrap64 (12 * t877)) + t878)) - 1)) + a1)) 12) + 1))).bind fun t882 => (if t879 > t882 then ((xaV.f kj3 (wrap64 (Int.tdiv (wrap64 ((wrap64 ((wrap64 ((wrap64 (12 * t877)) + t878)) - 1)) + a1)) 12)) (wrap64 ((Int.tmod (wrap64 ((wrap64 ((wrap64 ((wrap64 (12 * t877)) + t878)) - 1)) + a1)) 12) + 1)) t882).bind fun t883 => (some (t883, 0))) else (if a2 = true then (if t879 = t880 then ((xaV.f kj3 (wrap64 (Int.tdiv (wrap64 ((wrap64 ((wrap64 ((wrap64 (12 * t877)) + t878)) - 1)) + a1)) 12)) (wrap64 ((Int.tmod (wrap64 ((wrap64 ((wrap64 ((wrap64 (12 * t877)) + t878)) - 1)) + a1)) 12) + 1)) t882).bind fun t884 => (some (t884, 0))) else ((xaV.f kj3 (wrap64 (Int.tdiv (wrap64 ((wrap64 ((wrap64 ((wrap64 (12 * t877)) + t878)) - 1)) + a1)) 12)) (wrap64 ((Int.tmod (wrap64 ((wrap64 ((wrap64 ((wrap64 (12 * t877)) + t878)) - 1)) + a1)) 12) + 1)) t879).bind fun t885 => (some (t885, 0)))) else ((xaV.f kj3 (wrap64 (Int.tdiv (wrap64 ((wrap64 ((wrap64 ((wrap64 (12 * t877)) + t878)) - 1)) + a1)) 12)) (wrap64 ((Int.tmod (wrap64 ((wrap64 ((wrap64 ((wrap64 (12 * t877)) + t878)) - 1)) + a1)) 12) + 1)) t879).bind fun t886 => (some (t886, 0)))))) else (some (0, 51)))) = some (r1, r2) := H
    have A10 := am A100;clear A100;replace H := Option.bind_eq_some_iff.mp H
    obtain ⟨t881, A110, H⟩ := H
    replace H : (if t881 = true then ((xaU.f (wrap64 (Int.tdiv (wrap64 ((wrap64 ((wrap64 ((wrap64 (12 * t877)) + t878)) - 1)) + a1)) 12)) (wrap64 ((Int.tmod (wrap64 ((wrap64 ((wrap64 ((wrap64 (12 * t877)) + t878)) - 1)) + a1)) 12) + 1))).bind fun t882 => (if t879 > t882 then ((xaV.f kj3 (wrap64 (Int.tdiv (wrap64 ((wrap64 ((wrap64 ((wrap64 (12 * t877)) + t878)) - 1)) + a1)) 12)) (wrap64 ((Int.tmod (wrap64 ((wrap64 ((wrap64 ((wrap64 (12 * t877)) + t878)) - 1)) + a1)) 12) + 1)) t882).bind fun t883 => (some (t883, 0))) else (if a2 = true then (if t879 = t880 then ((xaV.f kj3 (wrap64 (Int.tdiv (wrap64 ((wrap64 ((wrap64 ((wrap64 (12 * t877)) + t878)) - 1)) + a1)) 12)) (wrap64 ((Int.tmod (wrap64 ((wrap64 ((wrap64 ((wrap64 (12 * t877)) + t878)) - 1)) + a1)) 12) + 1)) t882).bind fun t884 => (some (t884, 0))) else ((xaV.f kj3 (wrap64 (Int.tdiv (wrap64 ((wrap64 ((wrap64 ((wrap64 (12 * t877)) + t878)) - 1)) + a1)) 12)) (wrap64 ((Int.tmod (wrap64 ((wrap64 ((wrap64 ((wrap64 (12 * t877)) + t878)) - 1)) + a1)) 12) + 1)) t879).bind fun t885 => (some (t885, 0)))) else ((xaV.f kj3 (wrap64 (Int.tdiv (wrap64 ((wrap64 ((wrap64 ((wrap64 (12 * t877)) + t878)) - 1)) + a1)) 12)) (wrap64 ((Int.tmod (wrap64 ((wrap64 ((wrap64 ((wrap64 (12 * t877)) + t878)) - 1)) + a1)) 12) + 1)) t879).bind fun t886 => (some (t886, 0)))))) else (some (0, 51))) = some (r1, r2) := H
    have A11 := am A110;clear A110
    by_cases c12 : t881 = true
    ·
     subst c12
     have H1 : ((xaU.f (wrap64 (Int.tdiv (wrap64 ((wrap64 ((wrap64 ((wrap64 (12 * t877)) + t878)) - 1)) + a1)) 12)) (wrap64 ((Int.tmod (wrap64 ((wrap64 ((wrap64 ((wrap64 (12 * t877)) + t878)) - 1)) + a1)) 12) + 1))).bind fun t882 => (if t879 > t882 then ((xaV.f kj3 (wrap64 (Int.tdiv (wrap64 ((wrap64 ((wrap64 ((wrap64 (12 * t877)) + t878)) - 1)) + a1)) 12)) (wrap64 ((Int.tmod (wrap64 ((wrap64 ((wrap64 ((wrap64 (12 * t877)) + t878)) - 1)) + a1)) 12) + 1)) t882).bind fun t883 => (some (t883, 0))) else (if a2 = true then (if t879 = t880 then ((xaV.f kj3 (wrap64 (Int.tdiv (wrap64 ((wrap64 ((wrap64 ((wrap64 (12 * t877)) + t878)) - 1)) + a1)) 12)) (wrap64 ((Int.tmod (wrap64 ((wrap64 ((wrap64 ((wrap64 (12 * t877)) + t878)) - 1)) + a1)) 12) + 1)) t882).bind fun t884 => (some (t884, 0))) else ((xaV.f kj3 (wrap64 (Int.tdiv (wrap64 ((wrap64 ((wrap64 ((wrap64 (12 * t877)) + t878)) - 1)) + a1)) 12)) (wrap64 ((Int.tmod (wrap64 ((wrap64 ((wrap64 ((wrap64 (12 * t877)) + t878)) - 1)) + a1)) 12) + 1)) t879).bind fun t885 => (some (t885, 0)))) else ((xaV.f kj3 (wrap64 (Int.tdiv (wrap64 ((wrap64 ((wrap64 ((wrap64 (12 * t877)) + t878)) - 1)) + a1)) 12)) (wrap64 ((Int.tmod (wrap64 ((wrap64 ((wrap64 ((wrap64 (12 * t877)) + t878)) - 1)) + a1)) 12) + 1)) t879).bind fun t886 => (some (t886, 0)))))) = some (r1, r2) := by rw [if_pos rfl] at H; exact H
     clear H;have H := H1;clear H1;replace H := Option.bind_eq_some_iff.mp H
     obtain ⟨t882, A130, H⟩ := H
     replace H : (if t879 > t882 then ((xaV.f kj3 (wrap64 (Int.tdiv (wrap64 ((wrap64 ((wrap64 ((wrap64 (12 * t877)) + t878)) - 1)) + a1)) 12)) (wrap64 ((Int.tmod (wrap64 ((wrap64 ((wrap64 ((wrap64 (12 * t877)) + t878)) - 1)) + a1)) 12) + 1)) t882).bind fun t883 => (some (t883, 0))) else (if a2 = true then (if t879 = t880 then ((xaV.f kj3 (wrap64 (Int.tdiv (wrap64 ((wrap64 ((wrap64 ((wrap64 (12 * t877)) + t878)) - 1)) + a1)) 12)) (wrap64 ((Int.tmod (wrap64 ((wrap64 ((wrap64 ((wrap64 (12 * t877)) + t878)) - 1)) + a1)) 12) + 1)) t882).bind fun t884 => (some (t884, 0))) else ((xaV.f kj3 (wrap64 (Int.tdiv (wrap64 ((wrap64 ((wrap64 ((wrap64 (12 * t877)) + t878)) - 1)) + a1)) 12)) (wrap64 ((Int.tmod (wrap64 ((wrap64 ((wrap64 ((wrap64 (12 * t877)) + t878)) - 1)) + a1)) 12) + 1)) t879).bind fun t885 => (some (t885, 0)))) else ((xaV.f kj3 (wrap64 (Int.tdiv (wrap64 ((wrap64 ((wrap64 ((wrap64 (12 * t877)) + t878)) - 1)) + a1)) 12)) (wrap64 ((Int.tmod (wrap64 ((wrap64 ((wrap64 ((wrap64 (12 * t877)) + t878)) - 1)) + a1)) 12) + 1)) t879).bind fun t886 => (some (t886, 0))))) = some (r1, r2) := H
     have A13 := am A130;clear A130
     by_cases c14 : t879 > t882
     ·
      rw [if_pos c14] at H
      have c14b0 : decide (t882 < t879) = true := decide_eq_true c14
      clear c14;replace H := Option.bind_eq_some_iff.mp H
      obtain ⟨t883, A150, H⟩ := H
      replace H : (some (t883, 0)) = some (r1, r2) := H
      have A15 := am A150;clear A150
      simp only [Option.some.injEq, Prod.mk.injEq] at H
      obtain ⟨rfl, rfl⟩ := H
      go_wp2_with (first | ((with_reducible refine gG 99 ?_); refine goA (some 27) Tryz.func99 #[.int .i64 a0] ?_; (with_reducible refine (xaX.calls kj3 a0 t877 t878 t879 _ A9.out).mono ?_); rintro e w' ⟨rfl, ⟨nd, rfl⟩⟩; refine ⟨_, rfl, ?_⟩) | ((with_reducible refine gG 100 ?_); refine goA (some 34) Tryz.func100 #[.int .i64 t877, .int .i64 t878] ?_; (with_reducible refine (xaU.calls t877 t878 t880 _ A10.out).mono ?_); rintro e w' ⟨rfl, ⟨nd, rfl⟩⟩; refine ⟨_, rfl, ?_⟩) | ((with_reducible refine gG 101 ?_); refine goA (some 50) Tryz.func101 #[.int .i64 (wrap64 (Int.tdiv (wrap64 ((wrap64 ((wrap64 ((wrap64 (12 * t877)) + t878)) - 1)) + a1)) 12)), .int .i64 (wrap64 ((Int.tmod (wrap64 ((wrap64 ((wrap64 ((wrap64 (12 * t877)) + t878)) - 1)) + a1)) 12) + 1))] ?_; (with_reducible refine (xbG.calls (wrap64 (Int.tdiv (wrap64 ((wrap64 ((wrap64 ((wrap64 (12 * t877)) + t878)) - 1)) + a1)) 12)) (wrap64 ((Int.tmod (wrap64 ((wrap64 ((wrap64 ((wrap64 (12 * t877)) + t878)) - 1)) + a1)) 12) + 1)) true _ A11.out).mono ?_); rintro e w' ⟨rfl, ⟨nd, rfl⟩⟩; refine ⟨_, rfl, ?_⟩) | ((with_reducible refine gG 100 ?_); refine goA (some 54) Tryz.func100 #[.int .i64 (wrap64 (Int.tdiv (wrap64 ((wrap64 ((wrap64 ((wrap64 (12 * t877)) + t878)) - 1)) + a1)) 12)), .int .i64 (wrap64 ((Int.tmod (wrap64 ((wrap64 ((wrap64 ((wrap64 (12 * t877)) + t878)) - 1)) + a1)) 12) + 1))] ?_; (with_reducible refine (xaU.calls (wrap64 (Int.tdiv (wrap64 ((wrap64 ((wrap64 ((wrap64 (12 * t877)) + t878)) - 1)) + a1)) 12)) (wrap64 ((Int.tmod (wrap64 ((wrap64 ((wrap64 ((wrap64 (12 * t877)) + t878)) - 1)) + a1)) 12) + 1)) t882 _ A13.out).mono ?_); rintro e w' ⟨rfl, ⟨nd, rfl⟩⟩; refine ⟨_, rfl, ?_⟩) | ((with_reducible refine gG 102 ?_); refine goA (some 68) Tryz.func102 #[.int .i64 (wrap64 (Int.tdiv (wrap64 ((wrap64 ((wrap64 ((wrap64 (12 * t877)) + t878)) - 1)) + a1)) 12)), .int .i64 (wrap64 ((Int.tmod (wrap64 ((wrap64 ((wrap64 ((wrap64 (12 * t877)) + t878)) - 1)) + a1)) 12) + 1)), .int .i64 t882] ?_; (with_reducible refine (xaV.calls kj3 (wrap64 (Int.tdiv (wrap64 ((wrap64 ((wrap64 ((wrap64 (12 * t877)) + t878)) - 1)) + a1)) 12)) (wrap64 ((Int.tmod (wrap64 ((wrap64 ((wrap64 ((wrap64 (12 * t877)) + t878)) - 1)) + a1)) 12) + 1)) t882 t883 _ A15.out).mono ?_); rintro e w' ⟨rfl, ⟨nd, rfl⟩⟩; refine ⟨_, rfl, ?_⟩))
      go_ret2
      exact ⟨eS, eD⟩
     ·
      rw [if_neg c14] at H
      have c14b0 : decide (t882 < t879) = false := decide_eq_false c14
      clear c14
      by_cases c16 : a2 = true
      ·
       subst c16
       have H1 : (if t879 = t880 then ((xaV.f kj3 (wrap64 (Int.tdiv (wrap64 ((wrap64 ((wrap64 ((wrap64 (12 * t877)) + t878)) - 1)) + a1)) 12)) (wrap64 ((Int.tmod (wrap64 ((wrap64 ((wrap64 ((wrap64 (12 * t877)) + t878)) - 1)) + a1)) 12) + 1)) t882).bind fun t884 => (some (t884, 0))) else ((xaV.f kj3 (wrap64 (Int.tdiv (wrap64 ((wrap64 ((wrap64 ((wrap64 (12 * t877)) + t878)) - 1)) + a1)) 12)) (wrap64 ((Int.tmod (wrap64 ((wrap64 ((wrap64 ((wrap64 (12 * t877)) + t878)) - 1)) + a1)) 12) + 1)) t879).bind fun t885 => (some (t885, 0)))) = some (r1, r2) := by rw [if_pos rfl] at H; exact H
       clear H;have H := H1;clear H1
       by_cases c17 : t879 = t880
       ·
        rw [if_pos c17] at H
        have c17b0 : (t879 == t880) = true := beq_iff_eq.mpr c17
        have c17b1 : (t879 != t880) = false := bne_eq_false_iff_eq.mpr c17
        clear c17;replace H := Option.bind_eq_some_iff.mp H
        obtain ⟨t884, A180, H⟩ := H
        replace H : (some (t884, 0)) = some (r1, r2) := H
        have A18 := am A180;clear A180
        simp only [Option.some.injEq, Prod.mk.injEq] at H
        obtain ⟨rfl, rfl⟩ := H
        go_wp2_with (first | ((with_reducible refine gG 99 ?_); refine goA (some 27) Tryz.func99 #[.int .i64 a0] ?_; (with_reducible refine (xaX.calls kj3 a0 t877 t878 t879 _ A9.out).mono ?_); rintro e w' ⟨rfl, ⟨nd, rfl⟩⟩; refine ⟨_, rfl, ?_⟩) | ((with_reducible refine gG 100 ?_); refine goA (some 34) Tryz.func100 #[.int .i64 t877, .int .i64 t878] ?_; (with_reducible refine (xaU.calls t877 t878 t880 _ A10.out).mono ?_); rintro e w' ⟨rfl, ⟨nd, rfl⟩⟩; refine ⟨_, rfl, ?_⟩) | ((with_reducible refine gG 101 ?_); refine goA (some 50) Tryz.func101 #[.int .i64 (wrap64 (Int.tdiv (wrap64 ((wrap64 ((wrap64 ((wrap64 (12 * t877)) + t878)) - 1)) + a1)) 12)), .int .i64 (wrap64 ((Int.tmod (wrap64 ((wrap64 ((wrap64 ((wrap64 (12 * t877)) + t878)) - 1)) + a1)) 12) + 1))] ?_; (with_reducible refine (xbG.calls (wrap64 (Int.tdiv (wrap64 ((wrap64 ((wrap64 ((wrap64 (12 * t877)) + t878)) - 1)) + a1)) 12)) (wrap64 ((Int.tmod (wrap64 ((wrap64 ((wrap64 ((wrap64 (12 * t877)) + t878)) - 1)) + a1)) 12) + 1)) true _ A11.out).mono ?_); rintro e w' ⟨rfl, ⟨nd, rfl⟩⟩; refine ⟨_, rfl, ?_⟩) | ((with_reducible refine gG 100 ?_); refine goA (some 54) Tryz.func100 #[.int .i64 (wrap64 (Int.tdiv (wrap64 ((wrap64 ((wrap64 ((wrap64 (12 * t877)) + t878)) - 1)) + a1)) 12)), .int .i64 (wrap64 ((Int.tmod (wrap64 ((wrap64 ((wrap64 ((wrap64 (12 * t877)) + t878)) - 1)) + a1)) 12) + 1))] ?_; (with_reducible refine (xaU.calls (wrap64 (Int.tdiv (wrap64 ((wrap64 ((wrap64 ((wrap64 (12 * t877)) + t878)) - 1)) + a1)) 12)) (wrap64 ((Int.tmod (wrap64 ((wrap64 ((wrap64 ((wrap64 (12 * t877)) + t878)) - 1)) + a1)) 12) + 1)) t882 _ A13.out).mono ?_); rintro e w' ⟨rfl, ⟨nd, rfl⟩⟩; refine ⟨_, rfl, ?_⟩) | ((with_reducible refine gG 102 ?_); refine goA (some 68) Tryz.func102 #[.int .i64 (wrap64 (Int.tdiv (wrap64 ((wrap64 ((wrap64 ((wrap64 (12 * t877)) + t878)) - 1)) + a1)) 12)), .int .i64 (wrap64 ((Int.tmod (wrap64 ((wrap64 ((wrap64 ((wrap64 (12 * t877)) + t878)) - 1)) + a1)) 12) + 1)), .int .i64 t882] ?_; (with_reducible refine (xaV.calls kj3 (wrap64 (Int.tdiv (wrap64 ((wrap64 ((wrap64 ((wrap64 (12 * t877)) + t878)) - 1)) + a1)) 12)) (wrap64 ((Int.tmod (wrap64 ((wrap64 ((wrap64 ((wrap64 (12 * t877)) + t878)) - 1)) + a1)) 12) + 1)) t882 t884 _ A18.out).mono ?_); rintro e w' ⟨rfl, ⟨nd, rfl⟩⟩; refine ⟨_, rfl, ?_⟩))
        go_ret2
        exact ⟨eS, eD⟩
       ·
        rw [if_neg c17] at H
        have c17b0 : (t879 == t880) = false := beq_eq_false_iff_ne.mpr c17
        have c17b1 : (t879 != t880) = true := bne_iff_ne.mpr c17
        replace H := Option.bind_eq_some_iff.mp H
        obtain ⟨t885, A190, H⟩ := H
        replace H : (some (t885, 0)) = some (r1, r2) := H
        have A19 := am A190;clear A190
        simp only [Option.some.injEq, Prod.mk.injEq] at H
        obtain ⟨rfl, rfl⟩ := H
        go_wp2_with (first | ((with_reducible refine gG 99 ?_); refine goA (some 27) Tryz.func99 #[.int .i64 a0] ?_; (with_reducible refine (xaX.calls kj3 a0 t877 t878 t879 _ A9.out).mono ?_); rintro e w' ⟨rfl, ⟨nd, rfl⟩⟩; refine ⟨_, rfl, ?_⟩) | ((with_reducible refine gG 100 ?_); refine goA (some 34) Tryz.func100 #[.int .i64 t877, .int .i64 t878] ?_; (with_reducible refine (xaU.calls t877 t878 t880 _ A10.out).mono ?_); rintro e w' ⟨rfl, ⟨nd, rfl⟩⟩; refine ⟨_, rfl, ?_⟩) | ((with_reducible refine gG 101 ?_); refine goA (some 50) Tryz.func101 #[.int .i64 (wrap64 (Int.tdiv (wrap64 ((wrap64 ((wrap64 ((wrap64 (12 * t877)) + t878)) - 1)) + a1)) 12)), .int .i64 (wrap64 ((Int.tmod (wrap64 ((wrap64 ((wrap64 ((wrap64 (12 * t877)) + t878)) - 1)) + a1)) 12) + 1))] ?_; (with_reducible refine (xbG.calls (wrap64 (Int.tdiv (wrap64 ((wrap64 ((wrap64 ((wrap64 (12 * t877)) + t878)) - 1)) + a1)) 12)) (wrap64 ((Int.tmod (wrap64 ((wrap64 ((wrap64 ((wrap64 (12 * t877)) + t878)) - 1)) + a1)) 12) + 1)) true _ A11.out).mono ?_); rintro e w' ⟨rfl, ⟨nd, rfl⟩⟩; refine ⟨_, rfl, ?_⟩) | ((with_reducible refine gG 100 ?_); refine goA (some 54) Tryz.func100 #[.int .i64 (wrap64 (Int.tdiv (wrap64 ((wrap64 ((wrap64 ((wrap64 (12 * t877)) + t878)) - 1)) + a1)) 12)), .int .i64 (wrap64 ((Int.tmod (wrap64 ((wrap64 ((wrap64 ((wrap64 (12 * t877)) + t878)) - 1)) + a1)) 12) + 1))] ?_; (with_reducible refine (xaU.calls (wrap64 (Int.tdiv (wrap64 ((wrap64 ((wrap64 ((wrap64 (12 * t877)) + t878)) - 1)) + a1)) 12)) (wrap64 ((Int.tmod (wrap64 ((wrap64 ((wrap64 ((wrap64 (12 * t877)) + t878)) - 1)) + a1)) 12) + 1)) t882 _ A13.out).mono ?_); rintro e w' ⟨rfl, ⟨nd, rfl⟩⟩; refine ⟨_, rfl, ?_⟩) | ((with_reducible refine gG 102 ?_); refine goA (some 68) Tryz.func102 #[.int .i64 (wrap64 (Int.tdiv (wrap64 ((wrap64 ((wrap64 ((wrap64 (12 * t877)) + t878)) - 1)) + a1)) 12)), .int .i64 (wrap64 ((Int.tmod (wrap64 ((wrap64 ((wrap64 ((wrap64 (12 * t877)) + t878)) - 1)) + a1)) 12) + 1)), .int .i64 t879] ?_; (with_reducible refine (xaV.calls kj3 (wrap64 (Int.tdiv (wrap64 ((wrap64 ((wrap64 ((wrap64 (12 * t877)) + t878)) - 1)) + a1)) 12)) (wrap64 ((Int.tmod (wrap64 ((wrap64 ((wrap64 ((wrap64 (12 * t877)) + t878)) - 1)) + a1)) 12) + 1)) t879 t885 _ A19.out).mono ?_); rintro e w' ⟨rfl, ⟨nd, rfl⟩⟩; refine ⟨_, rfl, ?_⟩))
        go_ret2
        exact ⟨eS, eD⟩
      ·
       replace c16 := Bool.eq_false_iff.mpr c16;subst c16
       have H1 : ((xaV.f kj3 (wrap64 (Int.tdiv (wrap64 ((wrap64 ((wrap64 ((wrap64 (12 * t877)) + t878)) - 1)) + a1)) 12)) (wrap64 ((Int.tmod (wrap64 ((wrap64 ((wrap64 ((wrap64 (12 * t877)) + t878)) - 1)) + a1)) 12) + 1)) t879).bind fun t886 => (some (t886, 0))) = some (r1, r2) := by rw [if_neg (show ¬ (false = true) by decide)] at H; exact H
       clear H;have H := H1;clear H1;replace H := Option.bind_eq_some_iff.mp H
       obtain ⟨t886, A200, H⟩ := H
       replace H : (some (t886, 0)) = some (r1, r2) := H
       have A20 := am A200;clear A200
       simp only [Option.some.injEq, Prod.mk.injEq] at H
       obtain ⟨rfl, rfl⟩ := H
       go_wp2_with (first | ((with_reducible refine gG 99 ?_); refine goA (some 27) Tryz.func99 #[.int .i64 a0] ?_; (with_reducible refine (xaX.calls kj3 a0 t877 t878 t879 _ A9.out).mono ?_); rintro e w' ⟨rfl, ⟨nd, rfl⟩⟩; refine ⟨_, rfl, ?_⟩) | ((with_reducible refine gG 100 ?_); refine goA (some 34) Tryz.func100 #[.int .i64 t877, .int .i64 t878] ?_; (with_reducible refine (xaU.calls t877 t878 t880 _ A10.out).mono ?_); rintro e w' ⟨rfl, ⟨nd, rfl⟩⟩; refine ⟨_, rfl, ?_⟩) | ((with_reducible refine gG 101 ?_); refine goA (some 50) Tryz.func101 #[.int .i64 (wrap64 (Int.tdiv (wrap64 ((wrap64 ((wrap64 ((wrap64 (12 * t877)) + t878)) - 1)) + a1)) 12)), .int .i64 (wrap64 ((Int.tmod (wrap64 ((wrap64 ((wrap64 ((wrap64 (12 * t877)) + t878)) - 1)) + a1)) 12) + 1))] ?_; (with_reducible refine (xbG.calls (wrap64 (Int.tdiv (wrap64 ((wrap64 ((wrap64 ((wrap64 (12 * t877)) + t878)) - 1)) + a1)) 12)) (wrap64 ((Int.tmod (wrap64 ((wrap64 ((wrap64 ((wrap64 (12 * t877)) + t878)) - 1)) + a1)) 12) + 1)) true _ A11.out).mono ?_); rintro e w' ⟨rfl, ⟨nd, rfl⟩⟩; refine ⟨_, rfl, ?_⟩) | ((with_reducible refine gG 100 ?_); refine goA (some 54) Tryz.func100 #[.int .i64 (wrap64 (Int.tdiv (wrap64 ((wrap64 ((wrap64 ((wrap64 (12 * t877)) + t878)) - 1)) + a1)) 12)), .int .i64 (wrap64 ((Int.tmod (wrap64 ((wrap64 ((wrap64 ((wrap64 (12 * t877)) + t878)) - 1)) + a1)) 12) + 1))] ?_; (with_reducible refine (xaU.calls (wrap64 (Int.tdiv (wrap64 ((wrap64 ((wrap64 ((wrap64 (12 * t877)) + t878)) - 1)) + a1)) 12)) (wrap64 ((Int.tmod (wrap64 ((wrap64 ((wrap64 ((wrap64 (12 * t877)) + t878)) - 1)) + a1)) 12) + 1)) t882 _ A13.out).mono ?_); rintro e w' ⟨rfl, ⟨nd, rfl⟩⟩; refine ⟨_, rfl, ?_⟩) | ((with_reducible refine gG 102 ?_); refine goA (some 68) Tryz.func102 #[.int .i64 (wrap64 (Int.tdiv (wrap64 ((wrap64 ((wrap64 ((wrap64 (12 * t877)) + t878)) - 1)) + a1)) 12)), .int .i64 (wrap64 ((Int.tmod (wrap64 ((wrap64 ((wrap64 ((wrap64 (12 * t877)) + t878)) - 1)) + a1)) 12) + 1)), .int .i64 t879] ?_; (with_reducible refine (xaV.calls kj3 (wrap64 (Int.tdiv (wrap64 ((wrap64 ((wrap64 ((wrap64 (12 * t877)) + t878)) - 1)) + a1)) 12)) (wrap64 ((Int.tmod (wrap64 ((wrap64 ((wrap64 ((wrap64 (12 * t877)) + t878)) - 1)) + a1)) 12) + 1)) t879 t886 _ A20.out).mono ?_); rintro e w' ⟨rfl, ⟨nd, rfl⟩⟩; refine ⟨_, rfl, ?_⟩))
       go_ret2
       exact ⟨eS, eD⟩
    ·
     replace c12 := Bool.eq_false_iff.mpr c12;subst c12
     have H1 : (some (0, 51)) = some (r1, r2) := by rw [if_neg (show ¬ (false = true) by decide)] at H; exact H
     clear H;have H := H1;clear H1
     simp only [Option.some.injEq, Prod.mk.injEq] at H
     obtain ⟨rfl, rfl⟩ := H
     go_wp2_with (first | ((with_reducible refine gG 99 ?_); refine goA (some 27) Tryz.func99 #[.int .i64 a0] ?_; (with_reducible refine (xaX.calls kj3 a0 t877 t878 t879 _ A9.out).mono ?_); rintro e w' ⟨rfl, ⟨nd, rfl⟩⟩; refine ⟨_, rfl, ?_⟩) | ((with_reducible refine gG 100 ?_); refine goA (some 34) Tryz.func100 #[.int .i64 t877, .int .i64 t878] ?_; (with_reducible refine (xaU.calls t877 t878 t880 _ A10.out).mono ?_); rintro e w' ⟨rfl, ⟨nd, rfl⟩⟩; refine ⟨_, rfl, ?_⟩) | ((with_reducible refine gG 101 ?_); refine goA (some 50) Tryz.func101 #[.int .i64 (wrap64 (Int.tdiv (wrap64 ((wrap64 ((wrap64 ((wrap64 (12 * t877)) + t878)) - 1)) + a1)) 12)), .int .i64 (wrap64 ((Int.tmod (wrap64 ((wrap64 ((wrap64 ((wrap64 (12 * t877)) + t878)) - 1)) + a1)) 12) + 1))] ?_; (with_reducible refine (xbG.calls (wrap64 (Int.tdiv (wrap64 ((wrap64 ((wrap64 ((wrap64 (12 * t877)) + t878)) - 1)) + a1)) 12)) (wrap64 ((Int.tmod (wrap64 ((wrap64 ((wrap64 ((wrap64 (12 * t877)) + t878)) - 1)) + a1)) 12) + 1)) false _ A11.out).mono ?_); rintro e w' ⟨rfl, ⟨nd, rfl⟩⟩; refine ⟨_, rfl, ?_⟩))
     go_ret2
     exact ⟨eS, eD⟩
def xbH.f (k : Nat) (a0 : Int) : Option (Int × Int × Int × Int) := (xdT.f a0).bind fun t887 => (if t887 = true then ((xaX.f k a0).bind fun bt888 => (some (bt888.1, bt888.2.1, bt888.2.2, 0))) else (some (0, 0, 0, 51)))
theorem xbH.calls (k : Nat) (a0 r1 r2 r3 r4 : Int) (w : World) (h : xbH.f k a0 = some (r1, r2, r3, r4)) :
  Calls Tryz.prog 186 #[.int .i64 a0] w fun e w' => e = .returned (.tuple #[.int .i64 r1, .int .i64 r2, .int .i64 r3, .int .i64 r4]) ∧ xcG w w' := by
 have H : ((xdT.f a0).bind fun t887 => (if t887 = true then ((xaX.f k a0).bind fun bt888 => (some (bt888.1, bt888.2.1, bt888.2.2, 0))) else (some (0, 0, 0, 51)))) = some (r1, r2, r3, r4) := h
 clear h;replace H := Option.bind_eq_some_iff.mp H
 obtain ⟨t887, A20, H⟩ := H
 replace H : (if t887 = true then ((xaX.f k a0).bind fun bt888 => (some (bt888.1, bt888.2.1, bt888.2.2, 0))) else (some (0, 0, 0, 51))) = some (r1, r2, r3, r4) := H
 have A2 := am A20;clear A20
 by_cases c3 : t887 = true
 ·
  subst c3
  have H1 : ((xaX.f k a0).bind fun bt888 => (some (bt888.1, bt888.2.1, bt888.2.2, 0))) = some (r1, r2, r3, r4) := by rw [if_pos rfl] at H; exact H
  clear H;have H := H1;clear H1;replace H := Option.bind_eq_some_iff.mp H
  obtain ⟨⟨t888, t889, t890⟩, A40, H⟩ := H
  replace H : (some (t888, t889, t890, 0)) = some (r1, r2, r3, r4) := H
  have A4 := am A40;clear A40
  simp only [Option.some.injEq, Prod.mk.injEq] at H
  obtain ⟨rfl, rfl, rfl, rfl⟩ := H
  go_enter Tryz.func186, Tryz.ntmps186
  go_wp2_with (first | ((with_reducible refine gG 98 ?_); refine goA (some 7) Tryz.func98 #[.int .i64 a0] ?_; (with_reducible refine (xdT.calls a0 true _ A2.out).mono ?_); rintro e w' ⟨rfl, ⟨nd, rfl⟩⟩; refine ⟨_, rfl, ?_⟩) | ((with_reducible refine gG 99 ?_); refine goA (some 11) Tryz.func99 #[.int .i64 a0] ?_; (with_reducible refine (xaX.calls k a0 t888 t889 t890 _ A4.out).mono ?_); rintro e w' ⟨rfl, ⟨nd, rfl⟩⟩; refine ⟨_, rfl, ?_⟩))
  refine bodyPost_ret (xgX (rs := [.tmp 2, .tmp 3, .tmp 4, .tmp 5]) rfl (by simp) (.tmp (.tmp (.tmp (.tmp .nil))))) rfl ?_
  exact ⟨eS, eD⟩
 ·
  replace c3 := Bool.eq_false_iff.mpr c3;subst c3
  have H1 : (some (0, 0, 0, 51)) = some (r1, r2, r3, r4) := by rw [if_neg (show ¬ (false = true) by decide)] at H; exact H
  clear H;have H := H1;clear H1
  simp only [Option.some.injEq, Prod.mk.injEq] at H
  obtain ⟨rfl, rfl, rfl, rfl⟩ := H
  go_enter Tryz.func186, Tryz.ntmps186
  go_wp2_with (first | ((with_reducible refine gG 98 ?_); refine goA (some 7) Tryz.func98 #[.int .i64 a0] ?_; (with_reducible refine (xdT.calls a0 false _ A2.out).mono ?_); rintro e w' ⟨rfl, ⟨nd, rfl⟩⟩; refine ⟨_, rfl, ?_⟩))
  refine bodyPost_ret (xgX (rs := [.tmp 2, .tmp 3, .tmp 4, .tmp 5]) rfl (by simp) (.tmp (.tmp (.tmp (.tmp .nil))))) rfl ?_
  exact ⟨eS, eD⟩
def xeX.f (k : Nat) (a0 a1 a2 : Int) : Option (Int × Int) := (xbG.f a0 a1).bind fun t893 => (if t893 = true then (if a2 < 1 then (some (0, 50)) else ((xaU.f a0 a1).bind fun t894 => (if a2 > t894 then (some (0, 50)) else ((xaV.f k a0 a1 a2).bind fun t895 => (some (t895, 0)))))) else (some (0, 50)))
theorem xeX.calls (k : Nat) (a0 a1 a2 r1 r2 : Int) (w : World) (h : xeX.f k a0 a1 a2 = some (r1, r2)) :
  Calls Tryz.prog 188 #[.int .i64 a0, .int .i64 a1, .int .i64 a2] w fun e w' => e = .returned (.tuple #[.int .i64 r1, .int .i64 r2]) ∧ xcG w w' := by
 have H : ((xbG.f a0 a1).bind fun t893 => (if t893 = true then (if a2 < 1 then (some (0, 50)) else ((xaU.f a0 a1).bind fun t894 => (if a2 > t894 then (some (0, 50)) else ((xaV.f k a0 a1 a2).bind fun t895 => (some (t895, 0)))))) else (some (0, 50)))) = some (r1, r2) := h
 clear h;replace H := Option.bind_eq_some_iff.mp H
 obtain ⟨t893, A40, H⟩ := H
 replace H : (if t893 = true then (if a2 < 1 then (some (0, 50)) else ((xaU.f a0 a1).bind fun t894 => (if a2 > t894 then (some (0, 50)) else ((xaV.f k a0 a1 a2).bind fun t895 => (some (t895, 0)))))) else (some (0, 50))) = some (r1, r2) := H
 have A4 := am A40;clear A40
 by_cases c5 : t893 = true
 ·
  subst c5
  have H1 : (if a2 < 1 then (some (0, 50)) else ((xaU.f a0 a1).bind fun t894 => (if a2 > t894 then (some (0, 50)) else ((xaV.f k a0 a1 a2).bind fun t895 => (some (t895, 0)))))) = some (r1, r2) := by rw [if_pos rfl] at H; exact H
  clear H;have H := H1;clear H1
  by_cases c6 : a2 < 1
  ·
   rw [if_pos c6] at H
   have c6b0 : decide (a2 < 1) = true := decide_eq_true c6
   clear c6
   simp only [Option.some.injEq, Prod.mk.injEq] at H
   obtain ⟨rfl, rfl⟩ := H
   go_enter Tryz.func188, Tryz.ntmps188
   go_wp2_with (first | ((with_reducible refine gG 101 ?_); refine goA (some 10) Tryz.func101 #[.int .i64 a0, .int .i64 a1] ?_; (with_reducible refine (xbG.calls a0 a1 true _ A4.out).mono ?_); rintro e w' ⟨rfl, ⟨nd, rfl⟩⟩; refine ⟨_, rfl, ?_⟩))
   go_ret2
   exact ⟨eS, eD⟩
  ·
   rw [if_neg c6] at H
   have c6b0 : decide (a2 < 1) = false := decide_eq_false c6
   clear c6;replace H := Option.bind_eq_some_iff.mp H
   obtain ⟨t894, A70, H⟩ := H
   replace H : (if a2 > t894 then (some (0, 50)) else ((xaV.f k a0 a1 a2).bind fun t895 => (some (t895, 0)))) = some (r1, r2) := H
   have A7 := am A70;clear A70
   by_cases c8 : a2 > t894
   ·
    rw [if_pos c8] at H
    have c8b0 : decide (t894 < a2) = true := decide_eq_true c8
    clear c8
    simp only [Option.some.injEq, Prod.mk.injEq] at H
    obtain ⟨rfl, rfl⟩ := H
    go_enter Tryz.func188, Tryz.ntmps188
    go_wp2_with (first | ((with_reducible refine gG 101 ?_); refine goA (some 10) Tryz.func101 #[.int .i64 a0, .int .i64 a1] ?_; (with_reducible refine (xbG.calls a0 a1 true _ A4.out).mono ?_); rintro e w' ⟨rfl, ⟨nd, rfl⟩⟩; refine ⟨_, rfl, ?_⟩) | (go_at_call 100; (with_reducible refine (xaU.calls a0 a1 t894 _ A7.out).mono ?_); rintro e w' ⟨rfl, ⟨nd, rfl⟩⟩))
    go_ret2
    exact ⟨eS, eD⟩
   ·
    rw [if_neg c8] at H
    have c8b0 : decide (t894 < a2) = false := decide_eq_false c8
    clear c8;replace H := Option.bind_eq_some_iff.mp H
    obtain ⟨t895, A90, H⟩ := H
    replace H : (some (t895, 0)) = some (r1, r2) := H
    have A9 := am A90;clear A90
    simp only [Option.some.injEq, Prod.mk.injEq] at H
    obtain ⟨rfl, rfl⟩ := H
    go_enter Tryz.func188, Tryz.ntmps188
    go_wp2_with (first | ((with_reducible refine gG 101 ?_); refine goA (some 10) Tryz.func101 #[.int .i64 a0, .int .i64 a1] ?_; (with_reducible refine (xbG.calls a0 a1 true _ A4.out).mono ?_); rintro e w' ⟨rfl, ⟨nd, rfl⟩⟩; refine ⟨_, rfl, ?_⟩) | (go_at_call 100; (with_reducible refine (xaU.calls a0 a1 t894 _ A7.out).mono ?_); rintro e w' ⟨rfl, ⟨nd, rfl⟩⟩) | ((with_reducible refine gG 102 ?_); refine goA (some 26) Tryz.func102 #[.int .i64 a0, .int .i64 a1, .int .i64 a2] ?_; (with_reducible refine (xaV.calls k a0 a1 a2 t895 _ A9.out).mono ?_); rintro e w' ⟨rfl, ⟨nd, rfl⟩⟩; refine ⟨_, rfl, ?_⟩))
    go_ret2
    exact ⟨eS, eD⟩
 ·
  replace c5 := Bool.eq_false_iff.mpr c5;subst c5
  have H1 : (some (0, 50)) = some (r1, r2) := by rw [if_neg (show ¬ (false = true) by decide)] at H; exact H
  clear H;have H := H1;clear H1
  simp only [Option.some.injEq, Prod.mk.injEq] at H
  obtain ⟨rfl, rfl⟩ := H
  go_enter Tryz.func188, Tryz.ntmps188
  go_wp2_with (first | ((with_reducible refine gG 101 ?_); refine goA (some 10) Tryz.func101 #[.int .i64 a0, .int .i64 a1] ?_; (with_reducible refine (xbG.calls a0 a1 false _ A4.out).mono ?_); rintro e w' ⟨rfl, ⟨nd, rfl⟩⟩; refine ⟨_, rfl, ?_⟩))
  go_ret2
  exact ⟨eS, eD⟩
end Go.Proofs.YtkabcgmegljebaaGreatDoor.Q
namespace Go.Proofs.YtkabcgmegljebaaGreatDoor.L
open Go.RowKit Go.Proofs.YtkabcgmegljebaaGreatDoorW.PrintWords Go.Proofs.YtkabcgmegljebaaGreatDoorW.PrintLast Go.Proofs.YtkabcgmegljebaaGreatDoorW.PrintMore
open Go.Proofs.YtkabcgmegljebaaGreatDoor.Q
theorem w64 {x : Int} (h0 : -9223372036854775808 ≤ x) (h1 : x ≤ 9223372036854775807) : wrap64 x = x := by unfold wrap64; omega
theorem td {a b : Int} (h : 0 ≤ a) : Int.tdiv a b = a / b := Int.tdiv_eq_ediv_of_nonneg h
theorem tm {a b : Int} (h : 0 ≤ a) : Int.tmod a b = a % b := Int.tmod_eq_emod_of_nonneg h
theorem tm0 (a b : Int) : Int.tmod a b = 0 ↔ a % b = 0 := ⟨fun h => Int.emod_eq_zero_of_dvd (Int.dvd_of_tmod_eq_zero h), fun h => Int.tmod_eq_zero_of_dvd (Int.dvd_of_emod_eq_zero h)⟩
theorem leap (y : Int) : xcE.f y = some (M.leap y) := by
 unfold xcE.f M.leap
 simp only [tm0]
 by_cases h4 : y % 4 = 0
 ·
  rw [if_pos h4]
  by_cases h100 : y % 100 = 0
  ·
   rw [if_pos h100]
   by_cases h400 : y % 400 = 0
   ·
    have : Int.tmod y 400 = 0 := (tm0 y 400).2 h400
    simp [h4, h400, this]
   ·
    have : ¬ Int.tmod y 400 = 0 := fun e => h400 ((tm0 y 400).1 e)
    simp [h4, h100, h400, this]
  ·
   rw [if_neg h100]; simp [h4, h100]
 ·
  rw [if_neg h4]; simp [h4]
theorem length (y m : Int) : xaU.f y m = some (M.mlen y m) := by
 unfold xaU.f M.mlen
 rw [leap]
 by_cases h2 : m = 2
 ·
  rw [if_pos h2, if_pos h2]; cases M.leap y <;> rfl
 ·
  rw [if_neg h2, if_neg h2]; repeat' split
  all_goals rfl
theorem before (y : Int) (h0 : 1 ≤ y) (h1 : y ≤ 3000) : xbQ.f y = some (M.before y) := by
  unfold xbQ.f M.before
  simp (disch := omega) only [w64, td]
theorem day_l (y m n : Int) (hn : -1000000 ≤ n) (hn1 : n ≤ 2000000) (hm : 1 ≤ m) (hm1 : m ≤ 12) : ∀ (d : Nat) (i : Int), 0 ≤ i → i ≤ m - 1 → m - 1 - i = d →
  Ev (fun k => xaV.l0 k y (n + M.cum y (i + 1)) (m - 1) i) (n + M.cum y m)
 | 0, i, a, b, c => by
  refine Ev.step (f := fun _ => some (n + M.cum y m)) (fun k => ?_) (Ev.now _)
  simp only [xaV.l0]
  rw [if_neg (by omega), show i + 1 = m from by omega]
 | d + 1, i, a, b, c => by
  have ih := day_l y m n hn hn1 hm hm1 d (i + 1) (by omega) (by omega) (by omega)
  refine Ev.step (fun k => ?_) ih
  simp only [xaV.l0]
  have r := M.xgR y (i + 1)
  have l := M.xdE y (i + 1)
  have s := M.xeY y (i + 1) (by omega) (by omega)
  rw [if_pos (by omega), w64 (by omega) (by omega), length]
  simp only [Option.bind_some]
  rw [w64 (by omega) (by omega), show n + M.cum y (i + 1) + M.mlen y (i + 1) = n + M.cum y (i + 1 + 1) from by omega]
theorem xjK (y : Int) (h0 : 1 ≤ y) (h1 : y ≤ 3000) : -800000 ≤ M.before y ∧ M.before y ≤ 500000 := by unfold M.before; omega
theorem day (y m d : Int) (h0 : 1 ≤ y) (h1 : y ≤ 3000) (hm : 1 ≤ m) (hm1 : m ≤ 12) (hd : -1000 ≤ d) (hd1 : d ≤ 1000) : Ev (fun k => xaV.f k y m d) (M.dayOf y m d) := by
 have hb := xjK y h0 h1
 have h := day_l y m (M.before y + d - 1) (by omega) (by omega) hm hm1 (m - 1).toNat 0 (by omega) (by omega) (by omega)
 refine Ev.congr (fun k => ?_) (by rw [show M.dayOf y m d = M.before y + d - 1 + M.cum y m from by unfold M.dayOf; omega]; exact h)
 unfold xaV.f
 rw [before y h0 h1]
 simp only [Option.bind_some]
 rw [w64 (x := M.before y + d) (by omega) (by omega), w64 (x := M.before y + d - 1) (by omega) (by omega), w64 (x := m - 1) (by omega) (by omega), show M.cum y (0 + 1) = 0 from M.cum_1 y, Int.add_zero]
theorem Of (y m d : Int) : Ev (fun k => xeX.f k y m d) (if M.xdQ y m d then (M.dayOf y m d, 0) else (0, 50)) := by
 have hm : xbG.f y m = some (decide (1900 ≤ y ∧ y ≤ 2199 ∧ 1 ≤ m ∧ m ≤ 12)) := by
  unfold xbG.f
  repeat' split
  all_goals first | (congr 1; rw [decide_eq_decide]; omega) | (congr 1; symm; rw [decide_eq_false_iff_not]; omega)
 have hl := M.xdE y m
 by_cases h : M.xdQ y m d
 ·
  rw [if_pos h]
  obtain ⟨a, b, c, e, f, g⟩ := h
  have hd := day y m d (by omega) (by omega) c e (by omega) (by omega)
  have hd2 := Ev.bind (f := fun _ t => some (t, (0 : Int))) hd (Ev.now _)
  refine Ev.congr (fun k => ?_) hd2
  unfold xeX.f
  rw [hm, length]
  simp only [Option.bind_some, a, b, c, e, and_self, decide_true, if_true]
  rw [if_neg (by omega), if_neg (by omega)]
 ·
  rw [if_neg h]
  refine Ev.congr (fun k => ?_) (Ev.now _)
  unfold xeX.f
  rw [hm, length]
  simp only [Option.bind_some]
  by_cases h2 : 1900 ≤ y ∧ y ≤ 2199 ∧ 1 ≤ m ∧ m ≤ 12
  ·
   rw [if_pos (by simp [h2])]
   by_cases h3 : d < 1
   ·
    rw [if_pos h3]
   ·
    rw [if_neg h3, if_pos (by rcases Int.lt_or_le (M.mlen y m) d with h5 | h5; exact h5; exact absurd ⟨h2.1, h2.2.1, h2.2.2.1, h2.2.2.2, by omega, h5⟩ h)]
  ·
   rw [if_neg (by simpa using h2)]
def i64 (x : Int) : Prop := -9223372036854775808 ≤ x ∧ x ≤ 9223372036854775807
variable {a0 a1 a2 a3 a4 a5 a6 a7 a8 : Int}
variable {a0 a1 a2 a3 a4 a5 a6 a7 a8 : Int}
theorem civil_l1 (y d : Int) (h0 : 0 ≤ d) (h1 : d < 365 + M.lp y) : ∀ (f : Nat) (m : Int), 1 ≤ m → m ≤ M.monOf y d → M.monOf y d - m = f →
  Ev (fun k => xaX.l1 k y m (d - M.cum y m)) (y, M.monOf y d, d - M.cum y (M.monOf y d) + 1)
 | 0, m, a, b, c => by
  obtain ⟨p, q, r, s⟩ := M.xeC y d h0 h1
  have e : m = M.monOf y d := by omega
  have hc := M.xeY y (M.monOf y d) p q
  have hg := M.xgR y (M.monOf y d)
  have hl := M.lp_01 y
  refine Ev.step (f := fun _ => some (y, M.monOf y d, d - M.cum y (M.monOf y d) + 1)) (fun k => ?_) (Ev.now _)
  rw [e]
  simp only [xaX.l1, length, Option.bind_some]
  rw [if_neg (by omega), w64 (by omega) (by omega)]
 | f + 1, m, a, b, c => by
  obtain ⟨p, q, r, s⟩ := M.xeC y d h0 h1
  have ih := civil_l1 y d h0 h1 f (m + 1) (by omega) (by omega) (by omega)
  have hc := M.xeY y m a (by omega)
  have hg := M.xgR y m
  have hle := M.cum_le y (show 1 ≤ m + 1 by omega) (show m + 1 ≤ M.monOf y d by omega) (by omega)
  have hl := M.lp_01 y;have hml := M.xdE y m
  refine Ev.step (fun k => ?_) ih
  simp only [xaX.l1, length, Option.bind_some]
  rw [if_pos (by omega), w64 (by omega) (by omega), w64 (by omega) (by omega), show d - M.cum y m - M.mlen y m = d - M.cum y (m + 1) from by omega]
theorem civil_l0 (n : Int) (h0 : 0 ≤ n) (h1 : n ≤ 109572) : ∀ (f : Nat) (y : Int), 1900 ≤ y → y ≤ M.xcP n → M.xcP n - y = f →
  Ev (fun k => xaX.l0 k n y) (M.civY n, M.civM n, M.civD n)
 | 0, y, a, b, c => by
  obtain ⟨p, q, r, s⟩ := M.xdF n h0 h1
  have e : y = M.xcP n := by omega
  have hs := M.xcF (M.xcP n)
  have hb := xjK (M.xcP n) (by omega) (by omega)
  obtain ⟨p2, q2, r2, s2⟩ := M.xeC (M.xcP n) (n - M.before (M.xcP n)) (by omega) (by omega)
  have h := civil_l1 (M.xcP n) (n - M.before (M.xcP n)) (by omega) (by omega) (M.monOf (M.xcP n) (n - M.before (M.xcP n)) - 1).toNat 1 (by omega) p2 (by omega)
  rw [M.cum_1, Int.sub_zero] at h
  refine Ev.step (fun k => ?_) h
  rw [e]
  simp only [xaX.l0]
  rw [w64 (by omega) (by omega), before _ (by omega) (by omega), before _ (by omega) (by omega)]
  simp only [Option.bind_some]
  rw [if_neg (by omega), w64 (by omega) (by omega)]
 | f + 1, y, a, b, c => by
  obtain ⟨p, q, r, s⟩ := M.xdF n h0 h1
  have ih := civil_l0 n h0 h1 f (y + 1) (by omega) (by omega) (by omega)
  have hle := M.xcY (show y + 1 ≤ M.xcP n by omega)
  refine Ev.step (fun k => ?_) ih
  simp only [xaX.l0]
  rw [w64 (by omega) (by omega), before _ (by omega) (by omega)]
  simp only [Option.bind_some]
  rw [if_pos (by omega)]
theorem civil (n : Int) (h0 : 0 ≤ n) (h1 : n ≤ 109572) : Ev (fun k => xaX.f k n) (M.civY n, M.civM n, M.civD n) := by
 have hy : 1900 + n / 366 ≤ M.xcP n := by unfold M.xcP; split <;> omega
 have h := civil_l0 n h0 h1 (M.xcP n - (1900 + n / 366)).toNat (1900 + n / 366) (by omega) hy (by omega)
 refine Ev.congr (fun k => ?_) h
 unfold xaX.f
 rw [td h0, w64 (x := n / 366) (by omega) (by omega), w64 (by omega) (by omega)]
theorem dis (n : Int) : xdT.f n = some (decide (0 ≤ n ∧ n ≤ 109572)) := by
 unfold xdT.f
 split
 ·
  congr 1; rw [decide_eq_decide]; omega
 ·
  congr 1; symm; rw [decide_eq_false_iff_not]; omega
theorem Civil (n : Int) : Ev (fun k => xbH.f k n) (if 0 ≤ n ∧ n ≤ 109572 then (M.civY n, M.civM n, M.civD n, 0) else (0, 0, 0, 51)) := by
 by_cases h : 0 ≤ n ∧ n ≤ 109572
 ·
  rw [if_pos h]
  have hd2 := Ev.bind (f := fun _ (t : Int × Int × Int) => some (t.1, t.2.1, t.2.2, (0 : Int))) (civil n h.1 h.2) (Ev.now _)
  refine Ev.congr (fun k => ?_) hd2
  unfold xbH.f
  rw [dis]
  simp [h]
 ·
  rw [if_neg h]
  refine Ev.congr (fun k => ?_) (Ev.now _)
  unfold xbH.f
  rw [dis]
  simp only [Option.bind_some]
  rw [if_neg (by simpa using h)]
end Go.Proofs.YtkabcgmegljebaaGreatDoor.L
namespace Go.Proofs.YtkabcgmegljebaaGreatDoor.M
def mAt (n k : Int) : Int := 12 * civY n + civM n - 1 + k
def xcC (n k : Int) (e : Bool) : Int :=
  if civD n > mlen (mAt n k / 12) (mAt n k % 12 + 1) then mlen (mAt n k / 12) (mAt n k % 12 + 1)
  else if e = true ∧ civD n = mlen (civY n) (civM n) then mlen (mAt n k / 12) (mAt n k % 12 + 1) else civD n
def xcB (n k : Int) : Prop := -4000 ≤ k ∧ k ≤ 4000 ∧ 22800 ≤ mAt n k ∧ mAt n k ≤ 26399
instance monthsOkDec (n k : Int) : Decidable (xcB n k) := inferInstanceAs (Decidable (_ ∧ _))
def xdX (n k : Int) (e : Bool) : Int × Int :=
  if 0 ≤ n ∧ n ≤ 109572 then (if xcB n k then (dayOf (mAt n k / 12) (mAt n k % 12 + 1) (xcC n k e), 0) else (0, 51)) else (0, 51)
theorem xmH {n k : Int} (h : xcB n k) : 1900 ≤ mAt n k / 12 ∧ mAt n k / 12 ≤ 2199 ∧ 1 ≤ mAt n k % 12 + 1 ∧ mAt n k % 12 + 1 ≤ 12 := by
  unfold xcB at h; omega
theorem xkD {n k : Int} (e : Bool) (hn : 0 ≤ n ∧ n ≤ 109572) : 1 ≤ xcC n k e ∧ xcC n k e ≤ mlen (mAt n k / 12) (mAt n k % 12 + 1) := by
 have h := (xfS n hn.1 hn.2).1
 have l := xdE (mAt n k / 12) (mAt n k % 12 + 1)
 unfold xdQ at h
 unfold xcC
 split
 ·
  omega
 ·
  split <;> omega
theorem monthsDate {n k : Int} (e : Bool) (hn : 0 ≤ n ∧ n ≤ 109572) (h : xcB n k) : xdQ (mAt n k / 12) (mAt n k % 12 + 1) (xcC n k e) := by
  have a := xmH h; have b := xkD e hn (k := k)
  exact ⟨a.1, a.2.1, a.2.2.1, a.2.2.2, b.1, b.2⟩
end Go.Proofs.YtkabcgmegljebaaGreatDoor.M
namespace Go.Proofs.YtkabcgmegljebaaGreatDoor.L
open Go.RowKit Go.Proofs.YtkabcgmegljebaaGreatDoorW.PrintWords Go.Proofs.YtkabcgmegljebaaGreatDoorW.PrintLast Go.Proofs.YtkabcgmegljebaaGreatDoorW.PrintMore
open Go.Proofs.YtkabcgmegljebaaGreatDoor.Q
theorem dmonth (y m : Int) : xbG.f y m = some (decide (1900 ≤ y ∧ y ≤ 2199 ∧ 1 ≤ m ∧ m ≤ 12)) := by
 unfold xbG.f
 repeat' split
 all_goals first | (congr 1; rw [decide_eq_decide]; omega) | (congr 1; symm; rw [decide_eq_false_iff_not]; omega)
theorem xgV (n k : Int) (e : Bool) : Ev (fun q => xbA.j0 q n k e true) ((0, 51) : Int × Int) :=
  Ev.step (f := fun _ => some ((0, 51) : Int × Int)) (fun q => by rw [xbA.j0, if_pos rfl]) (Ev.now _)
theorem Months_j0f (n k : Int) (e : Bool) (hn : 0 ≤ n ∧ n ≤ 109572) (h0 : -4000 ≤ k) (h1 : k ≤ 4000) :
  Ev (fun q => xbA.j0 q n k e false) (if M.xcB n k then (M.dayOf (M.mAt n k / 12) (M.mAt n k % 12 + 1) (M.xcC n k e), 0) else ((0, 51) : Int × Int)) := by
 have hs := (M.xfS n hn.1 hn.2).1
 unfold M.xdQ at hs
 have hm : 0 ≤ M.mAt n k := by unfold M.mAt; omega
 have hm2 : M.mAt n k ≤ 40000 := by unfold M.mAt; omega
 have e1 : wrap64 (wrap64 (wrap64 (wrap64 (12 * M.civY n) + M.civM n) - 1) + k) = M.mAt n k := by
  unfold M.mAt
  rw [w64 (x := 12 * M.civY n) (by omega) (by omega), w64 (x := 12 * M.civY n + M.civM n) (by omega) (by omega), w64 (x := 12 * M.civY n + M.civM n - 1) (by omega) (by omega), w64 (by omega) (by omega)]
 have e2 : wrap64 (Int.tdiv (M.mAt n k) 12) = M.mAt n k / 12 := by rw [td hm, w64 (by omega) (by omega)]
 have e3 : wrap64 (Int.tmod (M.mAt n k) 12 + 1) = M.mAt n k % 12 + 1 := by rw [tm hm, w64 (by omega) (by omega)]
 have hstep : ∀ q, xbA.j0 (q + 1) n k e false = (xaX.f q n).bind fun (bt721 : Int × Int × Int) => _ := fun q => by rw [xbA.j0, if_neg (by decide)]
 refine Ev.step hstep (Ev.bind (civil n hn.1 hn.2) ?_)
 clear hstep
 have hl := M.xdE (M.mAt n k / 12) (M.mAt n k % 12 + 1)
 by_cases ho : M.xcB n k
 ·
  rw [if_pos ho]
  have hr := M.xmH ho
  have hd : ∀ d : Int, 1 ≤ d → d ≤ 31 → Ev (fun q => (xaV.f q (M.mAt n k / 12) (M.mAt n k % 12 + 1) d).bind fun t => some (t, (0 : Int))) (M.dayOf (M.mAt n k / 12) (M.mAt n k % 12 + 1) d, 0) :=
   fun d a b => Ev.bind (day _ _ d (by omega) (by omega) (by omega) (by omega) (by omega) (by omega)) (Ev.now _)
  refine Ev.congr (fun q => by simp only [e1, e2, e3, length, Option.bind_some, dmonth]; rw [decide_eq_true hr, if_pos rfl]) ?_
  unfold M.xcC
  by_cases c1 : M.civD n > M.mlen (M.mAt n k / 12) (M.mAt n k % 12 + 1)
  ·
   rw [if_pos c1]
   exact Ev.congr (fun q => if_pos c1) (hd _ (by omega) (by omega))
  ·
   rw [if_neg c1]
   refine Ev.congr (fun q => if_neg c1) ?_
   cases e with
   | true =>
    refine Ev.congr (fun q => if_pos rfl) ?_
    by_cases c2 : M.civD n = M.mlen (M.civY n) (M.civM n)
    ·
     rw [if_pos ⟨rfl, c2⟩]
     exact Ev.congr (fun q => if_pos c2) (hd _ (by omega) (by omega))
    ·
     rw [if_neg (fun h => c2 h.2)]
     exact Ev.congr (fun q => if_neg c2) (hd _ (by omega) (by omega))
   | false =>
    rw [if_neg (fun h => absurd h.1 (by decide))]
    exact Ev.congr (fun q => if_neg (by decide)) (hd _ (by omega) (by omega))
 ·
  rw [if_neg ho]
  refine Ev.congr (fun q => ?_) (Ev.now _)
  have hr : ¬ (1900 ≤ M.mAt n k / 12 ∧ M.mAt n k / 12 ≤ 2199 ∧ 1 ≤ M.mAt n k % 12 + 1 ∧ M.mAt n k % 12 + 1 ≤ 12) := by
   intro h; apply ho; unfold M.xcB; omega
  simp only [e1, e2, e3, length, Option.bind_some, dmonth]
  rw [decide_eq_false hr, if_neg (by decide)]
theorem Months (n k : Int) (e : Bool) : Ev (fun q => xbA.f q n k e) (M.xdX n k e) := by
 unfold M.xdX
 refine Ev.congr (fun q => by unfold xbA.f; rw [dis, Option.bind_some]) ?_
 by_cases hn : 0 ≤ n ∧ n ≤ 109572
 ·
  rw [if_pos hn]
  refine Ev.congr (fun q => by rw [decide_eq_true hn, if_pos rfl]) ?_
  by_cases h0 : k < -4000
  ·
   rw [if_neg (fun h => by have := h.1; omega)]
   exact Ev.congr (fun q => if_pos h0) (xgV n k e)
  ·
   refine Ev.congr (fun q => if_neg h0) ?_
   by_cases h1 : k > 4000
   ·
    rw [if_neg (fun h => by have := h.2.1; omega)]
    exact Ev.congr (fun q => by rw [decide_eq_true h1]) (xgV n k e)
   ·
    exact Ev.congr (fun q => by rw [decide_eq_false h1]) (Months_j0f n k e hn (by omega) (by omega))
 ·
  rw [if_neg hn]
  exact Ev.congr (fun q => by rw [decide_eq_false hn, if_neg (by decide)]) (xgV n k e)
end Go.Proofs.YtkabcgmegljebaaGreatDoor.L
