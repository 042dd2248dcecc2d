/- Contracts and facts of functions of the program (calendar, dates and their documents), joined in one text by a program of this session. No condition but what each theorem states. -/
import Derived.Test.YtoncignjcgjhhaaLGA
import Derived.Test.YtoncignjcgjhhaaLGI
import Derived.Test.YtoncignjcgjhhaaLGB
import Derived.Test.YtoncignjcgjhhaaLGD
import Derived.Test.YtoncignjcgjhhaaLGC
set_option linter.unusedVariables false
set_option linter.unusedSimpArgs false
namespace Go.Proofs.Ytoncignjcgjhhaa.Q
open Go.RowKit Go.Proofs.YtoncignjcgjhhaaW.PrintWords Go.Proofs.YtoncignjcgjhhaaW.PrintLast Go.Proofs.YtoncignjcgjhhaaW.PrintMore
attribute [local go_sem] max2_int min2_int max_two min_two max_three min_three max_four min_four   -- for this text's walks alone
def tenorref5_Length.f (k : Nat) (a0 a1 : Int) : Option (Int × Int) := if a0 < 1900 then (some (0, 50)) else (if a0 > 2199 then (some (0, 50)) else (if a1 < 1 then (some (0, 50)) else (if a1 > 12 then (some (0, 50)) else ((tenorref5_length.f k a0 a1).bind fun t194 => (some (t194, 0))))))
set_option maxHeartbeats 8000000 in
set_option maxRecDepth 100000 in
theorem tenorref5_Length.calls (k : Nat) (a0 a1 r1 r2 : Int) (w : World) (h : tenorref5_Length.f k a0 a1 = some (r1, r2)) :
  Calls Try.prog 117 #[.int .i64 a0, .int .i64 a1] w fun e w' => e = .returned (.tuple #[.int .i64 r1, .int .i64 r2]) ∧ Drawn0 w w' := by
 have H : (if a0 < 1900 then (some (0, 50)) else (if a0 > 2199 then (some (0, 50)) else (if a1 < 1 then (some (0, 50)) else (if a1 > 12 then (some (0, 50)) else ((tenorref5_length.f k a0 a1).bind fun t194 => (some (t194, 0))))))) = some (r1, r2) := h
 clear h
 by_cases c3 : a0 < 1900
 ·
  rw [if_pos c3] at H
  have c3b0 : decide (a0 < 1900) = true := decide_eq_true c3
  clear c3
  simp only [Option.some.injEq, Prod.mk.injEq] at H
  obtain ⟨rfl, rfl⟩ := H
  go_enter Try.func117, Try.ntmps117
  go_wp2
  go_ret2
  exact ⟨eS, eD⟩
 ·
  rw [if_neg c3] at H
  have c3b0 : decide (a0 < 1900) = false := decide_eq_false c3
  clear c3
  by_cases c4 : a0 > 2199
  ·
   rw [if_pos c4] at H
   have c4b0 : decide (2199 < a0) = true := decide_eq_true c4
   clear c4
   simp only [Option.some.injEq, Prod.mk.injEq] at H
   obtain ⟨rfl, rfl⟩ := H
   go_enter Try.func117, Try.ntmps117
   go_wp2
   go_ret2
   exact ⟨eS, eD⟩
  ·
   rw [if_neg c4] at H
   have c4b0 : decide (2199 < a0) = false := decide_eq_false c4
   clear c4
   by_cases c5 : a1 < 1
   ·
    rw [if_pos c5] at H
    have c5b0 : decide (a1 < 1) = true := decide_eq_true c5
    clear c5
    simp only [Option.some.injEq, Prod.mk.injEq] at H
    obtain ⟨rfl, rfl⟩ := H
    go_enter Try.func117, Try.ntmps117
    go_wp2
    go_ret2
    exact ⟨eS, eD⟩
   ·
    rw [if_neg c5] at H
    have c5b0 : decide (a1 < 1) = false := decide_eq_false c5
    clear c5
    by_cases c6 : a1 > 12
    ·
     rw [if_pos c6] at H
     have c6b0 : decide (12 < a1) = true := decide_eq_true c6
     clear c6
     simp only [Option.some.injEq, Prod.mk.injEq] at H
     obtain ⟨rfl, rfl⟩ := H
     go_enter Try.func117, Try.ntmps117
     go_wp2
     go_ret2
     exact ⟨eS, eD⟩
    ·
     rw [if_neg c6] at H
     have c6b0 : decide (12 < a1) = false := decide_eq_false c6
     clear c6;replace H := Option.bind_eq_some_iff.mp H
     obtain ⟨t194, A70, H⟩ := H
     replace H : (some (t194, 0)) = some (r1, r2) := H
     have A7 := Aside0.mk A70;clear A70
     simp only [Option.some.injEq, Prod.mk.injEq] at H
     obtain ⟨rfl, rfl⟩ := H
     go_enter Try.func117, Try.ntmps117
     go_wp2_with (first | ((with_reducible refine gG 124 ?_); refine goA (some 22) Try.func124 #[.int .i64 a0, .int .i64 a1] ?_; (with_reducible refine (tenorref5_length.calls k a0 a1 t194 _ A7.out).mono ?_); rintro e w' ⟨rfl, ⟨nd, rfl⟩⟩; refine ⟨_, rfl, ?_⟩))
     go_ret2
     exact ⟨eS, eD⟩
mutual
def tenorref5_Of.j0 : Nat → Int → Int → Int → Bool → Option (Int × Int)
  | 0, _, _, _, _ => none
  | k + 1, x0, x1, x2, x29 => if x29 = true then (some (0, 50)) else (tenorref5_Of.l0 k x0 x1 (wrap64 (x2 - 1)) 1900)
def tenorref5_Of.l0 : Nat → Int → Int → Int → Int → Option (Int × Int)
  | 0, _, _, _, _ => none
  | k + 1, x0, x1, x10, x11 => if x11 < x0 then ((tenorref5_Leap.f x11).bind fun t197 => (if t197 = true then (tenorref5_Of.l0 k x0 x1 (wrap64 ((wrap64 (x10 + 365)) + 1)) (wrap64 (x11 + 1))) else (tenorref5_Of.l0 k x0 x1 (wrap64 (x10 + 365)) (wrap64 (x11 + 1))))) else (tenorref5_Of.l1 k x0 x1 x10 1)
def tenorref5_Of.l1 : Nat → Int → Int → Int → Int → Option (Int × Int)
  | 0, _, _, _, _ => none
  | k + 1, x0, x1, x10, x12 => if x12 < x1 then ((tenorref5_length.f k x0 x12).bind fun t198 => (tenorref5_Of.l1 k x0 x1 (wrap64 (x10 + t198)) (wrap64 (x12 + 1)))) else (some (x10, 0))
end
def tenorref5_Of.f (k : Nat) (a0 a1 a2 : Int) : Option (Int × Int) := (tenorref5_Length.f k a0 a1).bind fun bt195 => (if bt195.2 = 0 then (if a2 < 1 then (tenorref5_Of.j0 k a0 a1 a2 true) else (tenorref5_Of.j0 k a0 a1 a2 (decide (a2 > bt195.1)))) else (tenorref5_Of.j0 k a0 a1 a2 true))
set_option maxHeartbeats 8000000 in
set_option maxRecDepth 100000 in
theorem tenorref5_Of.calls (k : Nat) (a0 a1 a2 r1 r2 : Int) (w : World) (h : tenorref5_Of.f k a0 a1 a2 = some (r1, r2)) :
  Calls Try.prog 97 #[.int .i64 a0, .int .i64 a1, .int .i64 a2] w fun e w' => e = .returned (.tuple #[.int .i64 r1, .int .i64 r2]) ∧ Drawn0 w w' := by
 have H : ((tenorref5_Length.f k a0 a1).bind fun bt195 => (if bt195.2 = 0 then (if a2 < 1 then (tenorref5_Of.j0 k a0 a1 a2 true) else (tenorref5_Of.j0 k a0 a1 a2 (decide (a2 > bt195.1)))) else (tenorref5_Of.j0 k a0 a1 a2 true))) = some (r1, r2) := h
 clear h;replace H := Option.bind_eq_some_iff.mp H
 obtain ⟨⟨t195, t196⟩, A40, H⟩ := H
 replace H : (if t196 = 0 then (if a2 < 1 then (tenorref5_Of.j0 k a0 a1 a2 true) else (tenorref5_Of.j0 k a0 a1 a2 (decide (a2 > t195)))) else (tenorref5_Of.j0 k a0 a1 a2 true)) = some (r1, r2) := H
 have A4 := Aside0.mk A40;clear A40;have HC5 := Aside0.mk H;clear H
 go_enter Try.func97, Try.ntmps97
 go_upto_region 2 with (first | ((with_reducible refine gG 117 ?_); refine goA (some 16) Try.func117 #[.int .i64 a0, .int .i64 a1] ?_; (with_reducible refine (tenorref5_Length.calls k a0 a1 t195 t196 _ A4.out).mono ?_); rintro e w' ⟨rfl, ⟨nd, rfl⟩⟩; refine ⟨_, rfl, ?_⟩))
 (try simp only [Act.put, List.setIfInBounds_toArray, List.set_cons_zero, List.set_cons_succ])
 go_cut [29] (fun v29 wc => ∃ (kq : Nat) (x29_4 : Bool), v29 = .bool x29_4 ∧ Aside0 (tenorref5_Of.j0 kq a0 a1 a2 x29_4 = some (r1, r2)) ∧ Aside0 (kq ≤ k) ∧ Drawn0 w wc)
 case first =>
  have H := HC5.out;clear HC5
  by_cases c6 : t196 = 0
  ·
   rw [if_pos c6] at H
   have c6b0 : (t196 == 0) = true := beq_iff_eq.mpr c6
   have c6b1 : (t196 != 0) = false := bne_eq_false_iff_eq.mpr c6
   clear c6
   (first | rw [c6b0] | (simp only [i64_w, i32_w]; rw [c6b0]) | skip)
   by_cases c7 : a2 < 1
   ·
    rw [if_pos c7] at H
    have c7b0 : decide (a2 < 1) = true := decide_eq_true c7
    clear c7;have H' := Aside0.mk H;clear H
    go_wp2
    go_meet
    case rel => exact ⟨_, (true), eS, H', ⟨eN⟩, eD⟩
   ·
    rw [if_neg c7] at H
    have c7b0 : decide (a2 < 1) = false := decide_eq_false c7
    clear c7;have H' := Aside0.mk H;clear H
    go_wp2
    go_meet
    case rel => exact ⟨_, (decide (a2 > t195)), eS, H', ⟨eN⟩, eD⟩
  ·
   rw [if_neg c6] at H
   have c6b0 : (t196 == 0) = false := beq_eq_false_iff_ne.mpr c6
   have c6b1 : (t196 != 0) = true := bne_iff_ne.mpr c6
   (first | rw [c6b0] | (simp only [i64_w, i32_w]; rw [c6b0]) | skip)
   have H' := Aside0.mk H;clear H
   go_wp2
   go_meet
   case rel => exact ⟨_, (true), eS, H', ⟨eN⟩, eD⟩
 case rest =>
  clear HC5
  obtain ⟨kq, x29_4, rfl, HA, HJ4, ⟨mc4, rfl⟩⟩ := hcut
  cases kq with
  | zero => exact absurd HA.out (by simp [tenorref5_Of.j0])
  | succ kj4 =>
   have H := HA.out;clear HA
   simp only [tenorref5_Of.j0] at H
   by_cases c8 : x29_4 = true
   ·
    subst c8
    have H1 : (some (0, 50)) = some (r1, r2) := by rw [if_pos rfl] at H; exact H
    clear H;have H := H1;clear H1
    simp only [Option.some.injEq, Prod.mk.injEq] at H
    obtain ⟨rfl, rfl⟩ := H
    go_wp2
    go_ret2
    exact ⟨eS, eD⟩
   ·
    replace c8 := Bool.eq_false_iff.mpr c8;subst c8
    have H1 : (tenorref5_Of.l0 kj4 a0 a1 (wrap64 (a2 - 1)) 1900) = some (r1, r2) := by rw [if_neg (show ¬ (false = true) by decide)] at H; exact H
    clear H;have H := H1;clear H1;have H' := Aside0.mk H;clear H
    go_wp2
    go_loopg [10, 11] kj4 (fun kq v10 v11 w' => ∃ (x10_2 : Int) (x11_2 : Int), v10 = .int .i64 x10_2 ∧ v11 = .int .i64 x11_2 ∧ Aside0 (tenorref5_Of.l0 kq a0 a1 x10_2 x11_2 = some (r1, r2)) ∧ Aside0 (kq ≤ kj4) ∧ Drawn0 w w')
    case atStart => exact ⟨(wrap64 (a2 - 1)), (1900), eS, eS, H', ⟨Nat.le_refl _⟩, eD⟩
    case round =>
     clear H'
     obtain ⟨x10_2, x11_2, rfl, rfl, HA, HK2, ⟨m2, rfl⟩⟩ := hrel
     cases gk with
     | zero => exact absurd HA.out (by simp [tenorref5_Of.l0])
     | succ k2 =>
      have H := HA.out;clear HA
      simp only [tenorref5_Of.l0] at H
      by_cases c9 : x11_2 < a0
      ·
       rw [if_pos c9] at H
       have c9b0 : decide (x11_2 < a0) = true := decide_eq_true c9
       clear c9;replace H := Option.bind_eq_some_iff.mp H
       obtain ⟨t197, A100, H⟩ := H
       replace H : (if t197 = true then (tenorref5_Of.l0 k2 a0 a1 (wrap64 ((wrap64 (x10_2 + 365)) + 1)) (wrap64 (x11_2 + 1))) else (tenorref5_Of.l0 k2 a0 a1 (wrap64 (x10_2 + 365)) (wrap64 (x11_2 + 1)))) = some (r1, r2) := H
       have A10 := Aside0.mk A100;clear A100
       by_cases c11 : t197 = true
       ·
        subst c11
        have H1 : (tenorref5_Of.l0 k2 a0 a1 (wrap64 ((wrap64 (x10_2 + 365)) + 1)) (wrap64 (x11_2 + 1))) = some (r1, r2) := by rw [if_pos rfl] at H; exact H
        clear H;have H := H1;clear H1;have H' := Aside0.mk H;clear H
        go_wp2_with (first | ((with_reducible refine gG 98 ?_); refine goA (some 40) Try.func98 #[.int .i64 x11_2] ?_; (with_reducible refine (tenorref5_Leap.calls x11_2 true _ A10.out).mono ?_); rintro e w' ⟨rfl, ⟨nd, rfl⟩⟩; refine ⟨_, rfl, ?_⟩))
        go_roundg k2
        case measure => have := HJ4.out; have := HK2.out; omega
        case rel => exact ⟨(wrap64 ((wrap64 (x10_2 + 365)) + 1)), (wrap64 (x11_2 + 1)), eS, eS, H', ⟨by have := HJ4.out; have := HK2.out; omega⟩, eD⟩
       ·
        replace c11 := Bool.eq_false_iff.mpr c11;subst c11
        have H1 : (tenorref5_Of.l0 k2 a0 a1 (wrap64 (x10_2 + 365)) (wrap64 (x11_2 + 1))) = some (r1, r2) := by rw [if_neg (show ¬ (false = true) by decide)] at H; exact H
        clear H;have H := H1;clear H1;have H' := Aside0.mk H;clear H
        go_wp2_with (first | ((with_reducible refine gG 98 ?_); refine goA (some 40) Try.func98 #[.int .i64 x11_2] ?_; (with_reducible refine (tenorref5_Leap.calls x11_2 false _ A10.out).mono ?_); rintro e w' ⟨rfl, ⟨nd, rfl⟩⟩; refine ⟨_, rfl, ?_⟩))
        go_roundg k2
        case measure => have := HJ4.out; have := HK2.out; omega
        case rel => exact ⟨(wrap64 (x10_2 + 365)), (wrap64 (x11_2 + 1)), eS, eS, H', ⟨by have := HJ4.out; have := HK2.out; omega⟩, eD⟩
      ·
       rw [if_neg c9] at H
       have c9b0 : decide (x11_2 < a0) = false := decide_eq_false c9
       clear c9;have H' := Aside0.mk H;clear H
       go_wp2
       go_loopg [10, 12] k2 (fun kq v10 v12 w' => ∃ (x10_3 : Int) (x12_3 : Int), v10 = .int .i64 x10_3 ∧ v12 = .int .i64 x12_3 ∧ Aside0 (tenorref5_Of.l1 kq a0 a1 x10_3 x12_3 = some (r1, r2)) ∧ Aside0 (kq ≤ k2) ∧ Drawn0 w w')
       case atStart => exact ⟨(x10_2), (1), eS, eS, H', ⟨Nat.le_refl _⟩, eD⟩
       case round =>
        clear H'
        obtain ⟨x10_3, x12_3, rfl, rfl, HA, HK3, ⟨m3, rfl⟩⟩ := hrel
        cases gk with
        | zero => exact absurd HA.out (by simp [tenorref5_Of.l1])
        | succ k3 =>
         have H := HA.out;clear HA
         simp only [tenorref5_Of.l1] at H
         by_cases c12 : x12_3 < a1
         ·
          rw [if_pos c12] at H
          have c12b0 : decide (x12_3 < a1) = true := decide_eq_true c12
          clear c12;replace H := Option.bind_eq_some_iff.mp H
          obtain ⟨t198, A130, H⟩ := H
          replace H : (tenorref5_Of.l1 k3 a0 a1 (wrap64 (x10_3 + t198)) (wrap64 (x12_3 + 1))) = some (r1, r2) := H
          have A13 := Aside0.mk A130;clear A130;have H' := Aside0.mk H;clear H
          go_wp2_with (first | ((with_reducible refine gG 124 ?_); refine goA (some 51) Try.func124 #[.int .i64 a0, .int .i64 x12_3] ?_; (with_reducible refine (tenorref5_length.calls k3 a0 x12_3 t198 _ A13.out).mono ?_); rintro e w' ⟨rfl, ⟨nd, rfl⟩⟩; refine ⟨_, rfl, ?_⟩))
          go_roundg k3
          case measure => have := HJ4.out; have := HK2.out; have := HK3.out; omega
          case rel => exact ⟨(wrap64 (x10_3 + t198)), (wrap64 (x12_3 + 1)), eS, eS, H', ⟨by have := HJ4.out; have := HK2.out; have := HK3.out; omega⟩, eD⟩
         ·
          rw [if_neg c12] at H
          have c12b0 : decide (x12_3 < a1) = false := decide_eq_false c12
          clear c12
          simp only [Option.some.injEq, Prod.mk.injEq] at H
          obtain ⟨rfl, rfl⟩ := H
          go_wp2
          go_ret2
          exact ⟨eS, eD⟩
end Go.Proofs.Ytoncignjcgjhhaa.Q
namespace Go.Proofs.Ytoncignjcgjhhaa.R
open Go.RowKit Go.Proofs.YtoncignjcgjhhaaW.PrintWords Go.Proofs.YtoncignjcgjhhaaW.PrintLast Go.Proofs.YtoncignjcgjhhaaW.PrintMore
open Go.Proofs.Ytoncignjcgjhhaa.Q
open Go.Proofs.Ytoncignjcgjhhaa.L (w64 td tm tm0)
theorem Leap (y : Int) : tenorref5_Leap.f y = some (M.leap y) := by
 unfold tenorref5_Leap.f M.leap
 have e : ((Int.tmod y 400 == 0) : Bool) = decide (y % 400 = 0) := by
  rw [Bool.eq_iff_iff, beq_iff_eq, decide_eq_true_eq, tm0]
 rw [e]
 simp only [tm0]
 by_cases h4 : y % 4 = 0
 ·
  rw [if_pos h4]
  by_cases h100 : y % 100 = 0
  ·
   rw [if_pos h100]; congr 1; rw [decide_eq_decide]; omega
  ·
   rw [if_neg h100]; congr 1; symm; rw [decide_eq_true_eq]; omega
 ·
  rw [if_neg h4]; congr 1; rw [decide_eq_decide]; omega
theorem length_k (k : Nat) (y m : Int) : tenorref5_length.f (k + 1) y m = some (M.mlen y m) := by
 unfold tenorref5_length.f M.mlen
 simp only [tenorref5_length.j0]
 by_cases h4 : m = 4
 ·
  subst h4; simp
 rw [if_neg h4]
 by_cases h6 : m = 6
 ·
  subst h6; simp
 rw [if_neg h6]
 by_cases h9 : m = 9
 ·
  subst h9; simp
 rw [if_neg h9]
 by_cases h11 : m = 11
 ·
  subst h11; simp
 have e11 : (m == 11) = false := by simpa using h11
 rw [e11]
 simp only [Bool.false_eq_true, if_false]
 by_cases h2 : m = 2
 ·
  rw [if_pos h2, if_pos h2, Leap]; cases M.leap y <;> rfl
 ·
  rw [if_neg h2, if_neg h2, if_neg h4, if_neg h6, if_neg h9, if_neg h11]
theorem length_0 (y m : Int) : tenorref5_length.f 0 y m = none := by
 unfold tenorref5_length.f
 repeat' split
 all_goals rfl
theorem length (y m : Int) : Ev (fun k => tenorref5_length.f k y m) (M.mlen y m) := Ev.step (fun k => length_k k y m) (Ev.now _)
theorem Length (y m : Int) : Ev (fun k => tenorref5_Length.f k y m) (if 1900 ≤ y ∧ y ≤ 2199 ∧ 1 ≤ m ∧ m ≤ 12 then (M.mlen y m, 0) else (0, 50)) := by
 by_cases h : 1900 ≤ y ∧ y ≤ 2199 ∧ 1 ≤ m ∧ m ≤ 12
 ·
  rw [if_pos h]
  refine Ev.congr (fun k => ?_) (Ev.bind (f := fun _ t => some (t, (0 : Int))) (length y m) (Ev.now _))
  unfold tenorref5_Length.f
  rw [if_neg (by omega), if_neg (by omega), if_neg (by omega), if_neg (by omega)]
 ·
  rw [if_neg h]
  refine Ev.congr (fun k => ?_) (Ev.now _)
  unfold tenorref5_Length.f
  by_cases h1 : y < 1900
  ·
   rw [if_pos h1]
  rw [if_neg h1]
  by_cases h2 : y > 2199
  ·
   rw [if_pos h2]
  rw [if_neg h2]
  by_cases h3 : m < 1
  ·
   rw [if_pos h3]
  rw [if_neg h3, if_pos (by omega)]
theorem Of_l1 (y m n : Int) (hn : -1000000 ≤ n) (hn1 : n ≤ 2000000) (hm : 1 ≤ m) (hm1 : m ≤ 12) : ∀ (f : Nat) (i : Int), 1 ≤ i → i ≤ m → m - i = f →
  Ev (fun k => tenorref5_Of.l1 k y m (n + M.cum y i) i) (n + M.cum y m, 0)
 | 0, i, a, b, c => by
  have e : i = m := by omega
  refine Ev.step (f := fun _ => some (n + M.cum y m, (0 : Int))) (fun k => ?_) (Ev.now _)
  simp only [tenorref5_Of.l1]
  rw [if_neg (by omega), e]
 | f + 1, i, a, b, c => by
  have ih := Of_l1 y m n hn hn1 hm hm1 f (i + 1) (by omega) (by omega) (by omega)
  have r := M.cum_rng y i;have l := M.mlen_rng y i
  have s := M.cum_succ y i a (by omega)
  refine Ev.step (fun k => ?_) (Ev.bind (f := fun k t => tenorref5_Of.l1 k y m (wrap64 (n + M.cum y i + t)) (wrap64 (i + 1))) (length y i) ?_)
  ·
   simp only [tenorref5_Of.l1]; rw [if_pos (by omega)]
  ·
   rw [w64 (by omega) (by omega), w64 (by omega) (by omega), show n + M.cum y i + M.mlen y i = n + M.cum y (i + 1) from by omega]
   exact ih
theorem Of_l0 (y m d : Int) (h0 : 1900 ≤ y) (h1 : y ≤ 2199) (hm : 1 ≤ m) (hm1 : m ≤ 12) (hd : 1 ≤ d) (hd1 : d ≤ 31) : ∀ (f : Nat) (i : Int), 1900 ≤ i → i ≤ y → y - i = f →
  Ev (fun k => tenorref5_Of.l0 k y m (d - 1 + M.before i) i) (M.dayOf y m d, 0)
 | 0, i, a, b, c => by
  have e : i = y := by omega
  have hb := L.before_rng y (by omega) (by omega)
  have h := Of_l1 y m (d - 1 + M.before y) (by omega) (by omega) hm hm1 (m - 1).toNat 1 (by omega) hm (by omega)
  rw [M.cum_1, Int.add_zero, show d - 1 + M.before y + M.cum y m = M.dayOf y m d from by unfold M.dayOf; omega] at h
  refine Ev.step (fun k => ?_) h
  simp only [tenorref5_Of.l0]
  rw [if_neg (by omega), e]
 | f + 1, i, a, b, c => by
  have ih := Of_l0 y m d h0 h1 hm hm1 hd hd1 f (i + 1) (by omega) (by omega) (by omega)
  have hb := L.before_rng i (by omega) (by omega)
  have hs := M.before_succ i
  refine Ev.step (fun k => ?_) ih
  simp only [tenorref5_Of.l0]
  rw [if_pos (by omega), Leap]
  simp only [Option.bind_some]
  unfold M.lp at hs
  by_cases hl : M.leap i = true
  ·
   rw [if_pos hl] at hs ⊢
   rw [w64 (x := d - 1 + M.before i + 365) (by omega) (by omega), w64 (by omega) (by omega), w64 (by omega) (by omega), show d - 1 + M.before i + 365 + 1 = d - 1 + M.before (i + 1) from by omega]
  ·
   rw [if_neg hl] at hs ⊢
   rw [w64 (x := d - 1 + M.before i + 365) (by omega) (by omega), w64 (by omega) (by omega), show d - 1 + M.before i + 365 = d - 1 + M.before (i + 1) from by omega]
theorem Of (y m d : Int) : Ev (fun k => tenorref5_Of.f k y m d) (if M.isDate y m d then (M.dayOf y m d, 0) else (0, 50)) := by
 have hl := M.mlen_rng y m
 by_cases hy : 1900 ≤ y ∧ y ≤ 2199 ∧ 1 ≤ m ∧ m ≤ 12
 ·
  have hL := Length y m
  rw [if_pos hy] at hL
  refine Ev.congr (fun k => rfl) (Ev.bind hL ?_)
  simp only [if_true]
  by_cases h1 : d < 1
  ·
   refine Ev.congr (fun k => if_pos h1) ?_
   rw [if_neg (show ¬ M.isDate y m d from fun e => by have := e.2.2.2.2.1; omega)]
   exact Ev.step (f := fun _ => some ((0 : Int), (50 : Int))) (fun k => by simp only [tenorref5_Of.j0, if_true]) (Ev.now _)
  ·
   refine Ev.congr (fun k => if_neg h1) ?_
   by_cases h2 : d ≤ M.mlen y m
   ·
    rw [if_pos (show M.isDate y m d from ⟨hy.1, hy.2.1, hy.2.2.1, hy.2.2.2, by omega, h2⟩)]
    have h := Of_l0 y m d hy.1 hy.2.1 hy.2.2.1 hy.2.2.2 (by omega) (by omega) (y - 1900).toNat 1900 (by omega) hy.1 (by omega)
    rw [M.before_1900, Int.add_zero] at h
    refine Ev.step (fun k => ?_) h
    rw [show decide (d > M.mlen y m) = false from decide_eq_false (by omega)]
    simp only [tenorref5_Of.j0, Bool.false_eq_true, if_false]
    rw [w64 (by omega) (by omega)]
   ·
    rw [if_neg (show ¬ M.isDate y m d from fun e => h2 e.2.2.2.2.2)]
    rw [show decide (d > M.mlen y m) = true from decide_eq_true (by omega)]
    exact Ev.step (f := fun _ => some ((0 : Int), (50 : Int))) (fun k => by simp only [tenorref5_Of.j0, if_true]) (Ev.now _)
 ·
  rw [if_neg (show ¬ M.isDate y m d from fun e => hy ⟨e.1, e.2.1, e.2.2.1, e.2.2.2.1⟩)]
  have hL := Length y m
  rw [if_neg hy] at hL
  refine Ev.congr (fun k => rfl) (Ev.bind hL ?_)
  simp only [show ¬ ((50 : Int) = 0) from by decide, if_false]
  exact Ev.step (f := fun _ => some ((0 : Int), (50 : Int))) (fun k => by simp only [tenorref5_Of.j0, if_true]) (Ev.now _)
theorem Civil_l1 (y d : Int) (h0 : 0 ≤ d) (h1 : d < 365 + M.lp y) : ∀ (f : Nat) (m : Int), 1 ≤ m → m ≤ M.monOf y d → M.monOf y d - m = f →
  Ev (fun k => tenorref5_Civil.l1 k (d - M.cum y m) y m) (y, M.monOf y d, d - M.cum y (M.monOf y d) + 1, 0)
 | 0, m, a, b, c => by
  obtain ⟨p, q, r, s⟩ := M.monOf_spec y d h0 h1
  have e : m = M.monOf y d := by omega
  have hc := M.cum_succ y (M.monOf y d) p q
  have hg := M.cum_rng y (M.monOf y d)
  have hl := M.lp_01 y
  rw [e]
  refine Ev.step (fun k => ?_) (Ev.bind (f := fun _ _ => some (y, M.monOf y d, d - M.cum y (M.monOf y d) + 1, (0 : Int))) (length y (M.monOf y d)) (Ev.now _))
  simp only [tenorref5_Civil.l1]
  cases k with
  | zero => rw [length_0]; rfl
  | succ k =>
   rw [length_k]; simp only [Option.bind_some]
   rw [if_neg (by omega), w64 (by omega) (by omega)]
 | f + 1, m, a, b, c => by
  obtain ⟨p, q, r, s⟩ := M.monOf_spec y d h0 h1
  have ih := Civil_l1 y d h0 h1 f (m + 1) (by omega) (by omega) (by omega)
  have hc := M.cum_succ y m a (by omega)
  have hg := M.cum_rng y m
  have hle := M.cum_le y (show 1 ≤ m + 1 by omega) (show m + 1 ≤ M.monOf y d by omega) (by omega)
  have hl := M.lp_01 y;have hml := M.mlen_rng y m
  refine Ev.step (fun k => ?_) (Ev.bind (f := fun k _ => tenorref5_Civil.l1 k (d - M.cum y (m + 1)) y (m + 1)) (length y m) ih)
  simp only [tenorref5_Civil.l1]
  cases k with
  | zero => rw [length_0]; rfl
  | succ k =>
   rw [length_k]; simp only [Option.bind_some]
   rw [if_pos (by omega), w64 (by omega) (by omega), w64 (by omega) (by omega), show d - M.cum y m - M.mlen y m = d - M.cum y (m + 1) from by omega]
theorem Civil_l0 (n : Int) (h0 : 0 ≤ n) (h1 : n ≤ 109572) : ∀ (f : Nat) (y : Int), 1900 ≤ y → y ≤ M.yearOf n → M.yearOf n - y = f →
  Ev (fun k => tenorref5_Civil.l0 k (n - M.before y) y) (M.civY n, M.civM n, M.civD n, 0)
 | 0, y, a, b, c => by
  obtain ⟨p, q, r, s⟩ := M.yearOf_spec n h0 h1
  have e : y = M.yearOf n := by omega
  have hs := M.before_succ (M.yearOf n)
  have hb := L.before_rng (M.yearOf n) (by omega) (by omega)
  obtain ⟨p2, q2, r2, s2⟩ := M.monOf_spec (M.yearOf n) (n - M.before (M.yearOf n)) (by omega) (by omega)
  have h := Civil_l1 (M.yearOf n) (n - M.before (M.yearOf n)) (by omega) (by omega) (M.monOf (M.yearOf n) (n - M.before (M.yearOf n)) - 1).toNat 1 (by omega) p2 (by omega)
  rw [M.cum_1, Int.sub_zero] at h
  have h2 : Ev (fun k => tenorref5_Civil.j2 k (n - M.before (M.yearOf n)) (M.yearOf n)) (M.civY n, M.civM n, M.civD n, 0) := Ev.step (fun k => rfl) h
  refine Ev.step (fun k => ?_) h2
  rw [e]
  simp only [tenorref5_Civil.l0]
  rw [Leap]
  simp only [Option.bind_some]
  unfold M.lp at hs
  by_cases hl : M.leap (M.yearOf n) = true
  ·
   rw [if_pos hl] at hs ⊢; rw [if_pos (by omega)]
  ·
   rw [if_neg hl] at hs ⊢; rw [if_pos (by omega)]
 | f + 1, y, a, b, c => by
  obtain ⟨p, q, r, s⟩ := M.yearOf_spec n h0 h1
  have ih := Civil_l0 n h0 h1 f (y + 1) (by omega) (by omega) (by omega)
  have hle := M.before_le (show y + 1 ≤ M.yearOf n by omega)
  have hs := M.before_succ y
  have hb := L.before_rng y (by omega) (by omega)
  refine Ev.step (fun k => ?_) ih
  simp only [tenorref5_Civil.l0]
  rw [Leap]
  simp only [Option.bind_some]
  unfold M.lp at hs
  by_cases hl : M.leap y = true
  ·
   rw [if_pos hl] at hs ⊢
   rw [if_neg (by omega), w64 (by omega) (by omega), w64 (by omega) (by omega), show n - M.before y - 366 = n - M.before (y + 1) from by omega]
  ·
   rw [if_neg hl] at hs ⊢
   rw [if_neg (by omega), w64 (by omega) (by omega), w64 (by omega) (by omega), show n - M.before y - 365 = n - M.before (y + 1) from by omega]
theorem Civil (n : Int) : Ev (fun k => tenorref5_Civil.f k n) (if 0 ≤ n ∧ n ≤ 109572 then (M.civY n, M.civM n, M.civD n, 0) else (0, 0, 0, 51)) := by
 by_cases h : 0 ≤ n ∧ n ≤ 109572
 ·
  rw [if_pos h]
  obtain ⟨p, q, r, s⟩ := M.yearOf_spec n h.1 h.2
  have h2 := Civil_l0 n h.1 h.2 (M.yearOf n - 1900).toNat 1900 (by omega) p (by omega)
  rw [M.before_1900, Int.sub_zero] at h2
  refine Ev.congr (fun k => ?_) (Ev.step (g := fun k => tenorref5_Civil.j0 k n false) (fun k => by simp only [tenorref5_Civil.j0, Bool.false_eq_true, if_false]) h2)
  unfold tenorref5_Civil.f
  rw [if_neg (by omega), show decide (n > 109572) = false from decide_eq_false (by omega)]
 ·
  rw [if_neg h]
  refine Ev.congr (fun k => ?_) (Ev.step (g := fun k => tenorref5_Civil.j0 k n true) (f := fun _ => some ((0 : Int), (0 : Int), (0 : Int), (51 : Int))) (fun k => by simp only [tenorref5_Civil.j0, if_true]) (Ev.now _))
  unfold tenorref5_Civil.f
  by_cases h0 : n < 0
  ·
   rw [if_pos h0]
  ·
   rw [if_neg h0, show decide (n > 109572) = true from decide_eq_true (by omega)]
end Go.Proofs.Ytoncignjcgjhhaa.R
namespace Go.Proofs.Ytoncignjcgjhhaa.Q
open Go.RowKit Go.Proofs.YtoncignjcgjhhaaW.PrintWords Go.Proofs.YtoncignjcgjhhaaW.PrintLast Go.Proofs.YtoncignjcgjhhaaW.PrintMore
attribute [local go_sem] max2_int min2_int max_two min_two max_three min_three max_four min_four   -- for this text's walks alone
def tenorref5_Month.j0 : Nat → Int → Bool → Int → Int → Int → Option (Int × Int × Bool)
  | 0, _, _, _, _, _ => none
  | k + 1, x1, x13, x780000, x780001, x780002 => if x13 = true then (some (0, 0, false)) else (if (wrap64 ((wrap64 ((wrap64 ((wrap64 (12 * x780000)) + x780001)) - 1)) + x1)) < 22800 then (some (0, 0, false)) else (if (wrap64 ((wrap64 ((wrap64 ((wrap64 (12 * x780000)) + x780001)) - 1)) + x1)) > 26399 then (some (0, 0, false)) else (some (wrap64 (Int.tdiv (wrap64 ((wrap64 ((wrap64 ((wrap64 (12 * x780000)) + x780001)) - 1)) + x1)) 12), wrap64 ((Int.tmod (wrap64 ((wrap64 ((wrap64 ((wrap64 (12 * x780000)) + x780001)) - 1)) + x1)) 12) + 1), true))))
def tenorref5_Month.f (k : Nat) (a0_0 a0_1 a0_2 a1 : Int) : Option (Int × Int × Bool) := if a1 < (-4000) then (tenorref5_Month.j0 k a1 true a0_0 a0_1 a0_2) else (tenorref5_Month.j0 k a1 (decide (a1 > 4000)) a0_0 a0_1 a0_2)
set_option maxHeartbeats 8000000 in
set_option maxRecDepth 100000 in
theorem tenorref5_Month.calls (k : Nat) (a0_0 a0_1 a0_2 a1 r1 r2 : Int) (r3 : Bool) (w : World) (h : tenorref5_Month.f k a0_0 a0_1 a0_2 a1 = some (r1, r2, r3)) :
  Calls Try.prog 115 #[.agg #[.int .i64 a0_0, .int .i64 a0_1, .int .i64 a0_2], .int .i64 a1] w fun e w' => e = .returned (.tuple #[.int .i64 r1, .int .i64 r2, .bool r3]) ∧ Below w.heap.size w w' := by
 have hu115 := Try.underlying115
 have HB := Aside0.mk (Below.refl w.heap.size w)
 have H : (if a1 < (-4000) then (tenorref5_Month.j0 k a1 true a0_0 a0_1 a0_2) else (tenorref5_Month.j0 k a1 (decide (a1 > 4000)) a0_0 a0_1 a0_2)) = some (r1, r2, r3) := h
 clear h;have HC3 := Aside0.mk H;clear H
 go_enter Try.func115, Try.ntmps115
 go_upto_region 1 with (first | ((with_reducible refine gate_dst (N := 2) rfl ?_); refine box_event ?hg (N := 2) ?hd (cs := #[.int .i64 a0_0, .int .i64 a0_1, .int .i64 a0_2]) (t := 115) ?hr ?_; (case hd => rfl); (case hg => rfl); (case hr => first | (go_simp; done) | (go_simp; rfl)); intro gb779 hg w4 hbox hb; have BK779 := Aside0.mk (hbox); have GW779 := bG hg; have GE779 := bG hg; replace HB := bS hb; clear hb hbox hg))
 (try simp only [Act.put, List.setIfInBounds_toArray, List.set_cons_zero, List.set_cons_succ])
 go_cut [13] (fun v13 wc => ∃ (kq : Nat) (x13_2 : Bool), v13 = .bool x13_2 ∧ Aside0 (tenorref5_Month.j0 kq a1 x13_2 a0_0 a0_1 a0_2 = some (r1, r2, r3)) ∧ Aside0 (kq ≤ k) ∧ Aside0 (wc.heap[gb779]? = some (.cells #[.int .i64 a0_0, .int .i64 a0_1, .int .i64 a0_2] 115 (0, 0))) ∧ Aside0 (Below w.heap.size w wc))
 case first =>
  have H := HC3.out;clear HC3
  by_cases c5 : a1 < (-4000)
  ·
   rw [if_pos c5] at H
   have c5b0 : decide (a1 < (-4000)) = true := decide_eq_true c5
   clear c5
   (first | rw [c5b0] | (simp only [i64_w, i32_w]; rw [c5b0]) | skip)
   have H' := Aside0.mk H;clear H
   go_wp2
   go_meet
   case rel => exact ⟨_, (true), eS, H', ⟨eN⟩, ⟨(bk BK779)⟩, ⟨bB⟩⟩
  ·
   rw [if_neg c5] at H
   have c5b0 : decide (a1 < (-4000)) = false := decide_eq_false c5
   clear c5
   (first | rw [c5b0] | (simp only [i64_w, i32_w]; rw [c5b0]) | skip)
   have H' := Aside0.mk H;clear H
   go_wp2
   go_meet
   case rel => exact ⟨_, (decide (a1 > 4000)), eS, H', ⟨eN⟩, ⟨(bk BK779)⟩, ⟨bB⟩⟩
 case rest =>
  clear HC3
  obtain ⟨kq, x13_2, rfl, HA, HJ2, BK779, HB⟩ := hcut
  cases kq with
  | zero => exact absurd HA.out (by simp [tenorref5_Month.j0])
  | succ kj2 =>
   have H := HA.out;clear HA
   simp only [tenorref5_Month.j0] at H
   by_cases c6 : x13_2 = true
   ·
    subst c6
    have H1 : (some (0, 0, false)) = some (r1, r2, r3) := by rw [if_pos rfl] at H; exact H
    clear H;have H := H1;clear H1
    simp only [Option.some.injEq, Prod.mk.injEq] at H
    obtain ⟨rfl, rfl, rfl⟩ := H
    go_wp2
    go_ret3
    exact ⟨eW, bB⟩
   ·
    replace c6 := Bool.eq_false_iff.mpr c6;subst c6
    have H1 : (if (wrap64 ((wrap64 ((wrap64 ((wrap64 (12 * a0_0)) + a0_1)) - 1)) + a1)) < 22800 then (some (0, 0, false)) else (if (wrap64 ((wrap64 ((wrap64 ((wrap64 (12 * a0_0)) + a0_1)) - 1)) + a1)) > 26399 then (some (0, 0, false)) else (some (wrap64 (Int.tdiv (wrap64 ((wrap64 ((wrap64 ((wrap64 (12 * a0_0)) + a0_1)) - 1)) + a1)) 12), wrap64 ((Int.tmod (wrap64 ((wrap64 ((wrap64 ((wrap64 (12 * a0_0)) + a0_1)) - 1)) + a1)) 12) + 1), true)))) = some (r1, r2, r3) := by rw [if_neg (show ¬ (false = true) by decide)] at H; exact H
    clear H;have H := H1;clear H1
    by_cases c7 : (wrap64 ((wrap64 ((wrap64 ((wrap64 (12 * a0_0)) + a0_1)) - 1)) + a1)) < 22800
    ·
     rw [if_pos c7] at H
     have c7b0 : decide ((wrap64 ((wrap64 ((wrap64 ((wrap64 (12 * a0_0)) + a0_1)) - 1)) + a1)) < 22800) = true := decide_eq_true c7
     clear c7
     simp only [Option.some.injEq, Prod.mk.injEq] at H
     obtain ⟨rfl, rfl, rfl⟩ := H
     obtain ⟨_,_,_,_,_,_⟩ := blk3 BK779
     go_wp2
     go_ret3
     exact ⟨eW, bB⟩
    ·
     rw [if_neg c7] at H
     have c7b0 : decide ((wrap64 ((wrap64 ((wrap64 ((wrap64 (12 * a0_0)) + a0_1)) - 1)) + a1)) < 22800) = false := decide_eq_false c7
     clear c7
     by_cases c9 : (wrap64 ((wrap64 ((wrap64 ((wrap64 (12 * a0_0)) + a0_1)) - 1)) + a1)) > 26399
     ·
      rw [if_pos c9] at H
      have c9b0 : decide (26399 < (wrap64 ((wrap64 ((wrap64 ((wrap64 (12 * a0_0)) + a0_1)) - 1)) + a1))) = true := decide_eq_true c9
      clear c9
      simp only [Option.some.injEq, Prod.mk.injEq] at H
      obtain ⟨rfl, rfl, rfl⟩ := H
      obtain ⟨_,_,_,_,_,_⟩ := blk3 BK779
      go_wp2
      go_ret3
      exact ⟨eW, bB⟩
     ·
      rw [if_neg c9] at H
      have c9b0 : decide (26399 < (wrap64 ((wrap64 ((wrap64 ((wrap64 (12 * a0_0)) + a0_1)) - 1)) + a1))) = false := decide_eq_false c9
      clear c9
      simp only [Option.some.injEq, Prod.mk.injEq] at H
      obtain ⟨rfl, rfl, rfl⟩ := H
      obtain ⟨_,_,_,_,_,_⟩ := blk3 BK779
      go_wp2
      go_ret3
      exact ⟨eW, bB⟩
def tenorref5_Months.j0 : Nat → Int → Int → Int → Bool → Option (Int × Int)
  | 0, _, _, _, _ => none
  | k + 1, x10, x11, x13, x47 => if x47 = true then ((tenorref5_length.f k x10 x11).bind fun t790 => ((tenorref5_Of.f k x10 x11 t790).bind fun bt791 => (some (bt791.1, bt791.2)))) else ((tenorref5_Of.f k x10 x11 x13).bind fun bt793 => (some (bt793.1, bt793.2)))
def tenorref5_Months.f (k : Nat) (a0 a1 : Int) (a2 : Bool) : Option (Int × Int) := (tenorref5_Civil.f k a0).bind fun bt780 => (if bt780.2.2.2 = 0 then ((tenorref5_Month.f k bt780.1 bt780.2.1 bt780.2.2.1 a1).bind fun bt785 => (if bt785.2.2 = true then ((tenorref5_length.f k bt785.1 bt785.2.1).bind fun t788 => (if a2 = true then ((tenorref5_length.f k bt780.1 bt780.2.1).bind fun t789 => (tenorref5_Months.j0 k bt785.1 bt785.2.1 (mn bt780.2.2.1 t788) (bt780.2.2.1 == t789))) else (tenorref5_Months.j0 k bt785.1 bt785.2.1 (mn bt780.2.2.1 t788) false))) else (some (0, 51)))) else (some (0, bt780.2.2.2)))
set_option maxHeartbeats 8000000 in
set_option maxRecDepth 100000 in
theorem tenorref5_Months.calls (k : Nat) (a0 a1 : Int) (a2 : Bool) (r1 r2 : Int) (w : World) (h : tenorref5_Months.f k a0 a1 a2 = some (r1, r2)) :
  Calls Try.prog 116 #[.int .i64 a0, .int .i64 a1, .bool a2] w fun e w' => e = .returned (.tuple #[.int .i64 r1, .int .i64 r2]) ∧ Below w.heap.size w w' := by
 have hu115 := Try.underlying115
 have HB := Aside0.mk (Below.refl w.heap.size w)
 have H : ((tenorref5_Civil.f k a0).bind fun bt780 => (if bt780.2.2.2 = 0 then ((tenorref5_Month.f k bt780.1 bt780.2.1 bt780.2.2.1 a1).bind fun bt785 => (if bt785.2.2 = true then ((tenorref5_length.f k bt785.1 bt785.2.1).bind fun t788 => (if a2 = true then ((tenorref5_length.f k bt780.1 bt780.2.1).bind fun t789 => (tenorref5_Months.j0 k bt785.1 bt785.2.1 (mn bt780.2.2.1 t788) (bt780.2.2.1 == t789))) else (tenorref5_Months.j0 k bt785.1 bt785.2.1 (mn bt780.2.2.1 t788) false))) else (some (0, 51)))) else (some (0, bt780.2.2.2)))) = some (r1, r2) := h
 clear h;replace H := Option.bind_eq_some_iff.mp H
 obtain ⟨⟨t780, t781, t782, t783⟩, A40, H⟩ := H
 replace H : (if t783 = 0 then ((tenorref5_Month.f k t780 t781 t782 a1).bind fun bt785 => (if bt785.2.2 = true then ((tenorref5_length.f k bt785.1 bt785.2.1).bind fun t788 => (if a2 = true then ((tenorref5_length.f k t780 t781).bind fun t789 => (tenorref5_Months.j0 k bt785.1 bt785.2.1 (mn t782 t788) (t782 == t789))) else (tenorref5_Months.j0 k bt785.1 bt785.2.1 (mn t782 t788) false))) else (some (0, 51)))) else (some (0, t783))) = some (r1, r2) := H
 have A4 := Aside0.mk A40;clear A40
 by_cases c5 : t783 = 0
 ·
  rw [if_pos c5] at H
  have c5b0 : (t783 == 0) = true := beq_iff_eq.mpr c5
  have c5b1 : (t783 != 0) = false := bne_eq_false_iff_eq.mpr c5
  clear c5;replace H := Option.bind_eq_some_iff.mp H
  obtain ⟨⟨t785, t786, t787⟩, A60, H⟩ := H
  replace H : (if t787 = true then ((tenorref5_length.f k t785 t786).bind fun t788 => (if a2 = true then ((tenorref5_length.f k t780 t781).bind fun t789 => (tenorref5_Months.j0 k t785 t786 (mn t782 t788) (t782 == t789))) else (tenorref5_Months.j0 k t785 t786 (mn t782 t788) false))) else (some (0, 51))) = some (r1, r2) := H
  have A6 := Aside0.mk A60;clear A60
  by_cases c7 : t787 = true
  ·
   subst c7
   have H1 : ((tenorref5_length.f k t785 t786).bind fun t788 => (if a2 = true then ((tenorref5_length.f k t780 t781).bind fun t789 => (tenorref5_Months.j0 k t785 t786 (mn t782 t788) (t782 == t789))) else (tenorref5_Months.j0 k t785 t786 (mn t782 t788) false))) = some (r1, r2) := by rw [if_pos rfl] at H; exact H
   clear H;have H := H1;clear H1;replace H := Option.bind_eq_some_iff.mp H
   obtain ⟨t788, A80, H⟩ := H
   replace H : (if a2 = true then ((tenorref5_length.f k t780 t781).bind fun t789 => (tenorref5_Months.j0 k t785 t786 (mn t782 t788) (t782 == t789))) else (tenorref5_Months.j0 k t785 t786 (mn t782 t788) false)) = some (r1, r2) := H
   have A8 := Aside0.mk A80;clear A80
   obtain ⟨ji9, hji9⟩ : ∃ j_ : Int, (mn t782 t788) = j_ := ⟨_, rfl⟩
   replace H : (if a2 = true then ((tenorref5_length.f k t780 t781).bind fun t789 => (tenorref5_Months.j0 k t785 t786 ji9 (t782 == t789))) else (tenorref5_Months.j0 k t785 t786 ji9 false)) = some (r1, r2) := by first | (rw [hji9] at H; exact H) | (simp only [hji9] at H ⊢; exact H)
   (try rw [hji9] at A4)
   (try rw [hji9] at A6)
   (try rw [hji9] at A8)
   have hji9_ : (if t788 < t782 then t788 else t782) = ji9 := hji9
   have HC10 := Aside0.mk H;clear H
   go_enter Try.func116, Try.ntmps116
   go_upto_region 8 with (first | (go_at_call 96; (with_reducible refine (tenorref5_Civil.calls k a0 t780 t781 t782 t783 _ A4.out).mono ?_); rintro e w11 ⟨rfl, hb⟩; replace HB := bS hb; (try clear hb); (try clear hb2); (try clear hk); (try clear hi)) | ((with_reducible refine gate_dst (N := 8) rfl ?_); refine box_event ?hg (N := 8) ?hd (cs := #[.int .i64 0, .int .i64 0, .int .i64 0]) (t := 115) ?hr ?_; (case hd => rfl); (case hg => rfl); (case hr => first | (go_simp; done) | (go_simp; rfl)); intro gb784 hg w12 hbox hb; have BK784 := Aside0.mk (hbox); have GW784 := bG hg; have GE784 := bG hg; replace HB := bS hb; clear hb hbox hg; obtain ⟨hcz13_0,hcz13_1,hcz13_2,hfz13_0,hfz13_1,hfz13_2⟩ := blk3 BK784) | (go_at_call 115; (with_reducible refine (tenorref5_Month.calls k t780 t781 t782 a1 t785 t786 true _ A6.out).mono ?_); rintro e w14 ⟨rfl, hb⟩; replace BK784 := Aside0.mk (blk_below (g := gb784) (o := .cells #[.int .i64 t780, .int .i64 t781, .int .i64 t782] 115 (0, 0)) (by (with_reducible repeat (first | refine blk_drewN ?_ _ | refine blk_drew ?_ | refine blk_alloc ?_ _)); refine blk_put (cs := #[.int .i64 t780, .int .i64 t781, .int .i64 0]) ?_ 2 _ rfl; (with_reducible repeat (first | refine blk_drewN ?_ _ | refine blk_drew ?_ | refine blk_alloc ?_ _)); refine blk_put (cs := #[.int .i64 t780, .int .i64 0, .int .i64 0]) ?_ 1 _ rfl; (with_reducible repeat (first | refine blk_drewN ?_ _ | refine blk_drew ?_ | refine blk_alloc ?_ _)); refine blk_put (cs := #[.int .i64 0, .int .i64 0, .int .i64 0]) ?_ 0 _ rfl; (with_reducible repeat (first | refine blk_drewN ?_ _ | refine blk_drew ?_ | refine blk_alloc ?_ _)); exact BK784.out) hb); replace HB := bS hb; (try clear hb); (try clear hb2); (try clear hk); (try clear hi); obtain ⟨hcz15_0,hcz15_1,hcz15_2,hfz15_0,hfz15_1,hfz15_2⟩ := blk3 BK784) | (go_at_call 124; (with_reducible refine (tenorref5_length.calls k t785 t786 t788 _ A8.out).mono ?_); rintro e w' ⟨rfl, ⟨nd, rfl⟩⟩; (try first | exact ⟨rfl, _, World.drewN_drewN _ _ _⟩ | exact ⟨rfl, _, Eq.trans (World.drewN_drewN _ _ _) (congrArg (World.drewN _) (Nat.add_assoc _ _ _))⟩)))
   repeat (go_quiet (first | (go_at_call 96; (with_reducible refine (tenorref5_Civil.calls k a0 t780 t781 t782 t783 _ A4.out).mono ?_); rintro e w11 ⟨rfl, hb⟩; replace HB := bS hb; (try clear hb); (try clear hb2); (try clear hk); (try clear hi)) | ((with_reducible refine gate_dst (N := 8) rfl ?_); refine box_event ?hg (N := 8) ?hd (cs := #[.int .i64 0, .int .i64 0, .int .i64 0]) (t := 115) ?hr ?_; (case hd => rfl); (case hg => rfl); (case hr => first | (go_simp; done) | (go_simp; rfl)); intro gb784 hg w12 hbox hb; have BK784 := Aside0.mk (hbox); have GW784 := bG hg; have GE784 := bG hg; replace HB := bS hb; clear hb hbox hg; obtain ⟨hcz13_0,hcz13_1,hcz13_2,hfz13_0,hfz13_1,hfz13_2⟩ := blk3 BK784) | (go_at_call 115; (with_reducible refine (tenorref5_Month.calls k t780 t781 t782 a1 t785 t786 true _ A6.out).mono ?_); rintro e w14 ⟨rfl, hb⟩; replace BK784 := Aside0.mk (blk_below (g := gb784) (o := .cells #[.int .i64 t780, .int .i64 t781, .int .i64 t782] 115 (0, 0)) (by (with_reducible repeat (first | refine blk_drewN ?_ _ | refine blk_drew ?_ | refine blk_alloc ?_ _)); refine blk_put (cs := #[.int .i64 t780, .int .i64 t781, .int .i64 0]) ?_ 2 _ rfl; (with_reducible repeat (first | refine blk_drewN ?_ _ | refine blk_drew ?_ | refine blk_alloc ?_ _)); refine blk_put (cs := #[.int .i64 t780, .int .i64 0, .int .i64 0]) ?_ 1 _ rfl; (with_reducible repeat (first | refine blk_drewN ?_ _ | refine blk_drew ?_ | refine blk_alloc ?_ _)); refine blk_put (cs := #[.int .i64 0, .int .i64 0, .int .i64 0]) ?_ 0 _ rfl; (with_reducible repeat (first | refine blk_drewN ?_ _ | refine blk_drew ?_ | refine blk_alloc ?_ _)); exact BK784.out) hb); replace HB := bS hb; (try clear hb); (try clear hb2); (try clear hk); (try clear hi); obtain ⟨hcz15_0,hcz15_1,hcz15_2,hfz15_0,hfz15_1,hfz15_2⟩ := blk3 BK784) | (go_at_call 124; (with_reducible refine (tenorref5_length.calls k t785 t786 t788 _ A8.out).mono ?_); rintro e w' ⟨rfl, ⟨nd, rfl⟩⟩; (try first | exact ⟨rfl, _, World.drewN_drewN _ _ _⟩ | exact ⟨rfl, _, Eq.trans (World.drewN_drewN _ _ _) (congrArg (World.drewN _) (Nat.add_assoc _ _ _))⟩))); go_upto_region 8 with (first | (go_at_call 96; (with_reducible refine (tenorref5_Civil.calls k a0 t780 t781 t782 t783 _ A4.out).mono ?_); rintro e w11 ⟨rfl, hb⟩; replace HB := bS hb; (try clear hb); (try clear hb2); (try clear hk); (try clear hi)) | ((with_reducible refine gate_dst (N := 8) rfl ?_); refine box_event ?hg (N := 8) ?hd (cs := #[.int .i64 0, .int .i64 0, .int .i64 0]) (t := 115) ?hr ?_; (case hd => rfl); (case hg => rfl); (case hr => first | (go_simp; done) | (go_simp; rfl)); intro gb784 hg w12 hbox hb; have BK784 := Aside0.mk (hbox); have GW784 := bG hg; have GE784 := bG hg; replace HB := bS hb; clear hb hbox hg; obtain ⟨hcz13_0,hcz13_1,hcz13_2,hfz13_0,hfz13_1,hfz13_2⟩ := blk3 BK784) | (go_at_call 115; (with_reducible refine (tenorref5_Month.calls k t780 t781 t782 a1 t785 t786 true _ A6.out).mono ?_); rintro e w14 ⟨rfl, hb⟩; replace BK784 := Aside0.mk (blk_below (g := gb784) (o := .cells #[.int .i64 t780, .int .i64 t781, .int .i64 t782] 115 (0, 0)) (by (with_reducible repeat (first | refine blk_drewN ?_ _ | refine blk_drew ?_ | refine blk_alloc ?_ _)); refine blk_put (cs := #[.int .i64 t780, .int .i64 t781, .int .i64 0]) ?_ 2 _ rfl; (with_reducible repeat (first | refine blk_drewN ?_ _ | refine blk_drew ?_ | refine blk_alloc ?_ _)); refine blk_put (cs := #[.int .i64 t780, .int .i64 0, .int .i64 0]) ?_ 1 _ rfl; (with_reducible repeat (first | refine blk_drewN ?_ _ | refine blk_drew ?_ | refine blk_alloc ?_ _)); refine blk_put (cs := #[.int .i64 0, .int .i64 0, .int .i64 0]) ?_ 0 _ rfl; (with_reducible repeat (first | refine blk_drewN ?_ _ | refine blk_drew ?_ | refine blk_alloc ?_ _)); exact BK784.out) hb); replace HB := bS hb; (try clear hb); (try clear hb2); (try clear hk); (try clear hi); obtain ⟨hcz15_0,hcz15_1,hcz15_2,hfz15_0,hfz15_1,hfz15_2⟩ := blk3 BK784) | (go_at_call 124; (with_reducible refine (tenorref5_length.calls k t785 t786 t788 _ A8.out).mono ?_); rintro e w' ⟨rfl, ⟨nd, rfl⟩⟩; (try first | exact ⟨rfl, _, World.drewN_drewN _ _ _⟩ | exact ⟨rfl, _, Eq.trans (World.drewN_drewN _ _ _) (congrArg (World.drewN _) (Nat.add_assoc _ _ _))⟩))))
   (try simp only [Act.put, List.setIfInBounds_toArray, List.set_cons_zero, List.set_cons_succ])
   go_cut [47] (fun v47 wc => ∃ (kq : Nat) (x47_9 : Bool), v47 = .bool x47_9 ∧ Aside0 (tenorref5_Months.j0 kq t785 t786 ji9 x47_9 = some (r1, r2)) ∧ Aside0 (kq ≤ k) ∧ Aside0 (wc.heap[gb784]? = some (.cells #[.int .i64 t780, .int .i64 t781, .int .i64 t782] 115 (0, 0))) ∧ Aside0 (Below w.heap.size w wc))
   case first =>
    have H := HC10.out;clear HC10
    by_cases c16 : a2 = true
    ·
     subst c16
     have H1 : ((tenorref5_length.f k t780 t781).bind fun t789 => (tenorref5_Months.j0 k t785 t786 ji9 (t782 == t789))) = some (r1, r2) := by rw [if_pos rfl] at H; exact H
     clear H;have H := H1;clear H1;replace H := Option.bind_eq_some_iff.mp H
     obtain ⟨t789, A170, H⟩ := H
     replace H : (tenorref5_Months.j0 k t785 t786 ji9 (t782 == t789)) = some (r1, r2) := H
     have A17 := Aside0.mk A170;clear A170;have H' := Aside0.mk H;clear H
     obtain ⟨_,_,_,_,_,_⟩ := blk3 BK784
     go_wp2_with (first | (go_at_call 124; (with_reducible refine (tenorref5_length.calls k t780 t781 t789 _ A17.out).mono ?_); rintro e w' ⟨rfl, ⟨nd, rfl⟩⟩; (try first | exact ⟨rfl, _, World.drewN_drewN _ _ _⟩ | exact ⟨rfl, _, Eq.trans (World.drewN_drewN _ _ _) (congrArg (World.drewN _) (Nat.add_assoc _ _ _))⟩)))
     repeat (go_quiet (first | (go_at_call 124; (with_reducible refine (tenorref5_length.calls k t780 t781 t789 _ A17.out).mono ?_); rintro e w' ⟨rfl, ⟨nd, rfl⟩⟩; (try first | exact ⟨rfl, _, World.drewN_drewN _ _ _⟩ | exact ⟨rfl, _, Eq.trans (World.drewN_drewN _ _ _) (congrArg (World.drewN _) (Nat.add_assoc _ _ _))⟩))); try go_wp2_with (first | (go_at_call 124; (with_reducible refine (tenorref5_length.calls k t780 t781 t789 _ A17.out).mono ?_); rintro e w' ⟨rfl, ⟨nd, rfl⟩⟩; (try first | exact ⟨rfl, _, World.drewN_drewN _ _ _⟩ | exact ⟨rfl, _, Eq.trans (World.drewN_drewN _ _ _) (congrArg (World.drewN _) (Nat.add_assoc _ _ _))⟩))))
     go_meet
     case rel => exact ⟨_, ((t782 == t789)), eS, H', ⟨eN⟩, ⟨(bk BK784)⟩, ⟨bB⟩⟩
    ·
     replace c16 := Bool.eq_false_iff.mpr c16;subst c16
     have H1 : (tenorref5_Months.j0 k t785 t786 ji9 false) = some (r1, r2) := by rw [if_neg (show ¬ (false = true) by decide)] at H; exact H
     clear H;have H := H1;clear H1;have H' := Aside0.mk H;clear H
     go_wp2
     repeat (go_quiet (fail); try go_wp2)
     go_meet
     case rel => exact ⟨_, (false), eS, H', ⟨eN⟩, ⟨(bk BK784)⟩, ⟨bB⟩⟩
   case rest =>
    clear HC10
    obtain ⟨kq, x47_9, rfl, HA, HJ9, BK784, HB⟩ := hcut
    cases kq with
    | zero => exact absurd HA.out (by simp [tenorref5_Months.j0])
    | succ kj9 =>
     have H := HA.out;clear HA
     simp only [tenorref5_Months.j0] at H
     by_cases c19 : x47_9 = true
     ·
      subst c19
      have H1 : ((tenorref5_length.f kj9 t785 t786).bind fun t790 => ((tenorref5_Of.f kj9 t785 t786 t790).bind fun bt791 => (some (bt791.1, bt791.2)))) = some (r1, r2) := by rw [if_pos rfl] at H; exact H
      clear H;have H := H1;clear H1;replace H := Option.bind_eq_some_iff.mp H
      obtain ⟨t790, A200, H⟩ := H
      replace H : ((tenorref5_Of.f kj9 t785 t786 t790).bind fun bt791 => (some (bt791.1, bt791.2))) = some (r1, r2) := H
      have A20 := Aside0.mk A200;clear A200;replace H := Option.bind_eq_some_iff.mp H
      obtain ⟨⟨t791, t792⟩, A210, H⟩ := H
      replace H : (some (t791, t792)) = some (r1, r2) := H
      have A21 := Aside0.mk A210;clear A210
      simp only [Option.some.injEq, Prod.mk.injEq] at H
      obtain ⟨rfl, rfl⟩ := H
      go_wp2_with (first | (go_at_call 124; (with_reducible refine (tenorref5_length.calls kj9 t785 t786 t790 _ A20.out).mono ?_); rintro e w' ⟨rfl, ⟨nd, rfl⟩⟩; (try first | exact ⟨rfl, _, World.drewN_drewN _ _ _⟩ | exact ⟨rfl, _, Eq.trans (World.drewN_drewN _ _ _) (congrArg (World.drewN _) (Nat.add_assoc _ _ _))⟩)) | (go_at_call 97; (with_reducible refine (tenorref5_Of.calls kj9 t785 t786 t790 t791 t792 _ A21.out).mono ?_); rintro e w' ⟨rfl, ⟨nd, rfl⟩⟩; (try first | exact ⟨rfl, _, World.drewN_drewN _ _ _⟩ | exact ⟨rfl, _, Eq.trans (World.drewN_drewN _ _ _) (congrArg (World.drewN _) (Nat.add_assoc _ _ _))⟩)))
      repeat (go_quiet (first | (go_at_call 124; (with_reducible refine (tenorref5_length.calls kj9 t785 t786 t790 _ A20.out).mono ?_); rintro e w' ⟨rfl, ⟨nd, rfl⟩⟩; (try first | exact ⟨rfl, _, World.drewN_drewN _ _ _⟩ | exact ⟨rfl, _, Eq.trans (World.drewN_drewN _ _ _) (congrArg (World.drewN _) (Nat.add_assoc _ _ _))⟩)) | (go_at_call 97; (with_reducible refine (tenorref5_Of.calls kj9 t785 t786 t790 t791 t792 _ A21.out).mono ?_); rintro e w' ⟨rfl, ⟨nd, rfl⟩⟩; (try first | exact ⟨rfl, _, World.drewN_drewN _ _ _⟩ | exact ⟨rfl, _, Eq.trans (World.drewN_drewN _ _ _) (congrArg (World.drewN _) (Nat.add_assoc _ _ _))⟩))); try go_wp2_with (first | (go_at_call 124; (with_reducible refine (tenorref5_length.calls kj9 t785 t786 t790 _ A20.out).mono ?_); rintro e w' ⟨rfl, ⟨nd, rfl⟩⟩; (try first | exact ⟨rfl, _, World.drewN_drewN _ _ _⟩ | exact ⟨rfl, _, Eq.trans (World.drewN_drewN _ _ _) (congrArg (World.drewN _) (Nat.add_assoc _ _ _))⟩)) | (go_at_call 97; (with_reducible refine (tenorref5_Of.calls kj9 t785 t786 t790 t791 t792 _ A21.out).mono ?_); rintro e w' ⟨rfl, ⟨nd, rfl⟩⟩; (try first | exact ⟨rfl, _, World.drewN_drewN _ _ _⟩ | exact ⟨rfl, _, Eq.trans (World.drewN_drewN _ _ _) (congrArg (World.drewN _) (Nat.add_assoc _ _ _))⟩))))
      go_ret2
      exact ⟨by first | rfl | (simp [errW_none, errW_some] <;> rfl) | (simp only [← hji9]; first | rfl | (simp [errW_none, errW_some] <;> rfl)) | (simp [*, errW_none, errW_some] <;> rfl), bB⟩
     ·
      replace c19 := Bool.eq_false_iff.mpr c19;subst c19
      have H1 : ((tenorref5_Of.f kj9 t785 t786 ji9).bind fun bt793 => (some (bt793.1, bt793.2))) = some (r1, r2) := by rw [if_neg (show ¬ (false = true) by decide)] at H; exact H
      clear H;have H := H1;clear H1;replace H := Option.bind_eq_some_iff.mp H
      obtain ⟨⟨t793, t794⟩, A220, H⟩ := H
      replace H : (some (t793, t794)) = some (r1, r2) := H
      have A22 := Aside0.mk A220;clear A220
      simp only [Option.some.injEq, Prod.mk.injEq] at H
      obtain ⟨rfl, rfl⟩ := H
      go_wp2_with (first | (go_at_call 97; (with_reducible refine (tenorref5_Of.calls kj9 t785 t786 ji9 t793 t794 _ A22.out).mono ?_); rintro e w' ⟨rfl, ⟨nd, rfl⟩⟩; (try first | exact ⟨rfl, _, World.drewN_drewN _ _ _⟩ | exact ⟨rfl, _, Eq.trans (World.drewN_drewN _ _ _) (congrArg (World.drewN _) (Nat.add_assoc _ _ _))⟩)))
      repeat (go_quiet (first | (go_at_call 97; (with_reducible refine (tenorref5_Of.calls kj9 t785 t786 ji9 t793 t794 _ A22.out).mono ?_); rintro e w' ⟨rfl, ⟨nd, rfl⟩⟩; (try first | exact ⟨rfl, _, World.drewN_drewN _ _ _⟩ | exact ⟨rfl, _, Eq.trans (World.drewN_drewN _ _ _) (congrArg (World.drewN _) (Nat.add_assoc _ _ _))⟩))); try go_wp2_with (first | (go_at_call 97; (with_reducible refine (tenorref5_Of.calls kj9 t785 t786 ji9 t793 t794 _ A22.out).mono ?_); rintro e w' ⟨rfl, ⟨nd, rfl⟩⟩; (try first | exact ⟨rfl, _, World.drewN_drewN _ _ _⟩ | exact ⟨rfl, _, Eq.trans (World.drewN_drewN _ _ _) (congrArg (World.drewN _) (Nat.add_assoc _ _ _))⟩))))
      go_ret2
      exact ⟨by first | rfl | (simp [errW_none, errW_some] <;> rfl) | (simp only [← hji9]; first | rfl | (simp [errW_none, errW_some] <;> rfl)) | (simp [*, errW_none, errW_some] <;> rfl), bB⟩
  ·
   replace c7 := Bool.eq_false_iff.mpr c7;subst c7
   have H1 : (some (0, 51)) = some (r1, r2) := by rw [if_neg (show ¬ (false = true) by decide)] at H; exact H
   clear H;have H := H1;clear H1
   simp only [Option.some.injEq, Prod.mk.injEq] at H
   obtain ⟨rfl, rfl⟩ := H
   go_enter Try.func116, Try.ntmps116
   go_wp2_with (first | (go_at_call 96; (with_reducible refine (tenorref5_Civil.calls k a0 t780 t781 t782 t783 _ A4.out).mono ?_); rintro e w23 ⟨rfl, hb⟩; replace HB := bS hb; (try clear hb); (try clear hb2); (try clear hk); (try clear hi)) | ((with_reducible refine gate_dst (N := 8) rfl ?_); refine box_event ?hg (N := 8) ?hd (cs := #[.int .i64 0, .int .i64 0, .int .i64 0]) (t := 115) ?hr ?_; (case hd => rfl); (case hg => rfl); (case hr => first | (go_simp; done) | (go_simp; rfl)); intro gb784 hg w24 hbox hb; have BK784 := Aside0.mk (hbox); have GW784 := bG hg; have GE784 := bG hg; replace HB := bS hb; clear hb hbox hg; obtain ⟨hcz25_0,hcz25_1,hcz25_2,hfz25_0,hfz25_1,hfz25_2⟩ := blk3 BK784) | (go_at_call 115; (with_reducible refine (tenorref5_Month.calls k t780 t781 t782 a1 t785 t786 false _ A6.out).mono ?_); rintro e w26 ⟨rfl, hb⟩; replace BK784 := Aside0.mk (blk_below (g := gb784) (o := .cells #[.int .i64 t780, .int .i64 t781, .int .i64 t782] 115 (0, 0)) (by (with_reducible repeat (first | refine blk_drewN ?_ _ | refine blk_drew ?_ | refine blk_alloc ?_ _)); refine blk_put (cs := #[.int .i64 t780, .int .i64 t781, .int .i64 0]) ?_ 2 _ rfl; (with_reducible repeat (first | refine blk_drewN ?_ _ | refine blk_drew ?_ | refine blk_alloc ?_ _)); refine blk_put (cs := #[.int .i64 t780, .int .i64 0, .int .i64 0]) ?_ 1 _ rfl; (with_reducible repeat (first | refine blk_drewN ?_ _ | refine blk_drew ?_ | refine blk_alloc ?_ _)); refine blk_put (cs := #[.int .i64 0, .int .i64 0, .int .i64 0]) ?_ 0 _ rfl; (with_reducible repeat (first | refine blk_drewN ?_ _ | refine blk_drew ?_ | refine blk_alloc ?_ _)); exact BK784.out) hb); replace HB := bS hb; (try clear hb); (try clear hb2); (try clear hk); (try clear hi)))
   repeat (go_quiet (first | (go_at_call 96; (with_reducible refine (tenorref5_Civil.calls k a0 t780 t781 t782 t783 _ A4.out).mono ?_); rintro e w23 ⟨rfl, hb⟩; replace HB := bS hb; (try clear hb); (try clear hb2); (try clear hk); (try clear hi)) | ((with_reducible refine gate_dst (N := 8) rfl ?_); refine box_event ?hg (N := 8) ?hd (cs := #[.int .i64 0, .int .i64 0, .int .i64 0]) (t := 115) ?hr ?_; (case hd => rfl); (case hg => rfl); (case hr => first | (go_simp; done) | (go_simp; rfl)); intro gb784 hg w24 hbox hb; have BK784 := Aside0.mk (hbox); have GW784 := bG hg; have GE784 := bG hg; replace HB := bS hb; clear hb hbox hg; obtain ⟨hcz25_0,hcz25_1,hcz25_2,hfz25_0,hfz25_1,hfz25_2⟩ := blk3 BK784) | (go_at_call 115; (with_reducible refine (tenorref5_Month.calls k t780 t781 t782 a1 t785 t786 false _ A6.out).mono ?_); rintro e w26 ⟨rfl, hb⟩; replace BK784 := Aside0.mk (blk_below (g := gb784) (o := .cells #[.int .i64 t780, .int .i64 t781, .int .i64 t782] 115 (0, 0)) (by (with_reducible repeat (first | refine blk_drewN ?_ _ | refine blk_drew ?_ | refine blk_alloc ?_ _)); refine blk_put (cs := #[.int .i64 t780, .int .i64 t781, .int .i64 0]) ?_ 2 _ rfl; (with_reducible repeat (first | refine blk_drewN ?_ _ | refine blk_drew ?_ | refine blk_alloc ?_ _)); refine blk_put (cs := #[.int .i64 t780, .int .i64 0, .int .i64 0]) ?_ 1 _ rfl; (with_reducible repeat (first | refine blk_drewN ?_ _ | refine blk_drew ?_ | refine blk_alloc ?_ _)); refine blk_put (cs := #[.int .i64 0, .int .i64 0, .int .i64 0]) ?_ 0 _ rfl; (with_reducible repeat (first | refine blk_drewN ?_ _ | refine blk_drew ?_ | refine blk_alloc ?_ _)); exact BK784.out) hb); replace HB := bS hb; (try clear hb); (try clear hb2); (try clear hk); (try clear hi))); try go_wp2_with (first | (go_at_call 96; (with_reducible refine (tenorref5_Civil.calls k a0 t780 t781 t782 t783 _ A4.out).mono ?_); rintro e w23 ⟨rfl, hb⟩; replace HB := bS hb; (try clear hb); (try clear hb2); (try clear hk); (try clear hi)) | ((with_reducible refine gate_dst (N := 8) rfl ?_); refine box_event ?hg (N := 8) ?hd (cs := #[.int .i64 0, .int .i64 0, .int .i64 0]) (t := 115) ?hr ?_; (case hd => rfl); (case hg => rfl); (case hr => first | (go_simp; done) | (go_simp; rfl)); intro gb784 hg w24 hbox hb; have BK784 := Aside0.mk (hbox); have GW784 := bG hg; have GE784 := bG hg; replace HB := bS hb; clear hb hbox hg; obtain ⟨hcz25_0,hcz25_1,hcz25_2,hfz25_0,hfz25_1,hfz25_2⟩ := blk3 BK784) | (go_at_call 115; (with_reducible refine (tenorref5_Month.calls k t780 t781 t782 a1 t785 t786 false _ A6.out).mono ?_); rintro e w26 ⟨rfl, hb⟩; replace BK784 := Aside0.mk (blk_below (g := gb784) (o := .cells #[.int .i64 t780, .int .i64 t781, .int .i64 t782] 115 (0, 0)) (by (with_reducible repeat (first | refine blk_drewN ?_ _ | refine blk_drew ?_ | refine blk_alloc ?_ _)); refine blk_put (cs := #[.int .i64 t780, .int .i64 t781, .int .i64 0]) ?_ 2 _ rfl; (with_reducible repeat (first | refine blk_drewN ?_ _ | refine blk_drew ?_ | refine blk_alloc ?_ _)); refine blk_put (cs := #[.int .i64 t780, .int .i64 0, .int .i64 0]) ?_ 1 _ rfl; (with_reducible repeat (first | refine blk_drewN ?_ _ | refine blk_drew ?_ | refine blk_alloc ?_ _)); refine blk_put (cs := #[.int .i64 0, .int .i64 0, .int .i64 0]) ?_ 0 _ rfl; (with_reducible repeat (first | refine blk_drewN ?_ _ | refine blk_drew ?_ | refine blk_alloc ?_ _)); exact BK784.out) hb); replace HB := bS hb; (try clear hb); (try clear hb2); (try clear hk); (try clear hi))))
   go_ret2
   exact ⟨eW, bB⟩
 ·
  rw [if_neg c5] at H
  have c5b0 : (t783 == 0) = false := beq_eq_false_iff_ne.mpr c5
  have c5b1 : (t783 != 0) = true := bne_iff_ne.mpr c5
  simp only [Option.some.injEq, Prod.mk.injEq] at H
  obtain ⟨rfl, rfl⟩ := H
  go_enter Try.func116, Try.ntmps116
  go_wp2_with (first | (go_at_call 96; (with_reducible refine (tenorref5_Civil.calls k a0 t780 t781 t782 t783 _ A4.out).mono ?_); rintro e w27 ⟨rfl, hb⟩; replace HB := bS hb; (try clear hb); (try clear hb2); (try clear hk); (try clear hi)) | ((with_reducible refine gate_dst (N := 8) rfl ?_); refine box_event ?hg (N := 8) ?hd (cs := #[.int .i64 0, .int .i64 0, .int .i64 0]) (t := 115) ?hr ?_; (case hd => rfl); (case hg => rfl); (case hr => first | (go_simp; done) | (go_simp; rfl)); intro gb784 hg w28 hbox hb; have BK784 := Aside0.mk (hbox); have GW784 := bG hg; have GE784 := bG hg; replace HB := bS hb; clear hb hbox hg; obtain ⟨hcz29_0,hcz29_1,hcz29_2,hfz29_0,hfz29_1,hfz29_2⟩ := blk3 BK784))
  repeat (go_quiet (first | (go_at_call 96; (with_reducible refine (tenorref5_Civil.calls k a0 t780 t781 t782 t783 _ A4.out).mono ?_); rintro e w27 ⟨rfl, hb⟩; replace HB := bS hb; (try clear hb); (try clear hb2); (try clear hk); (try clear hi)) | ((with_reducible refine gate_dst (N := 8) rfl ?_); refine box_event ?hg (N := 8) ?hd (cs := #[.int .i64 0, .int .i64 0, .int .i64 0]) (t := 115) ?hr ?_; (case hd => rfl); (case hg => rfl); (case hr => first | (go_simp; done) | (go_simp; rfl)); intro gb784 hg w28 hbox hb; have BK784 := Aside0.mk (hbox); have GW784 := bG hg; have GE784 := bG hg; replace HB := bS hb; clear hb hbox hg; obtain ⟨hcz29_0,hcz29_1,hcz29_2,hfz29_0,hfz29_1,hfz29_2⟩ := blk3 BK784)); try go_wp2_with (first | (go_at_call 96; (with_reducible refine (tenorref5_Civil.calls k a0 t780 t781 t782 t783 _ A4.out).mono ?_); rintro e w27 ⟨rfl, hb⟩; replace HB := bS hb; (try clear hb); (try clear hb2); (try clear hk); (try clear hi)) | ((with_reducible refine gate_dst (N := 8) rfl ?_); refine box_event ?hg (N := 8) ?hd (cs := #[.int .i64 0, .int .i64 0, .int .i64 0]) (t := 115) ?hr ?_; (case hd => rfl); (case hg => rfl); (case hr => first | (go_simp; done) | (go_simp; rfl)); intro gb784 hg w28 hbox hb; have BK784 := Aside0.mk (hbox); have GW784 := bG hg; have GE784 := bG hg; replace HB := bS hb; clear hb hbox hg; obtain ⟨hcz29_0,hcz29_1,hcz29_2,hfz29_0,hfz29_1,hfz29_2⟩ := blk3 BK784)))
  go_ret2
  exact ⟨eW, bB⟩
end Go.Proofs.Ytoncignjcgjhhaa.Q
namespace Go.Proofs.Ytoncignjcgjhhaa.Q
open Go.RowKit Go.Proofs.YtoncignjcgjhhaaW.PrintWords Go.Proofs.YtoncignjcgjhhaaW.PrintLast Go.Proofs.YtoncignjcgjhhaaW.PrintMore
attribute [local go_sem] max2_int min2_int max_two min_two max_three min_three max_four min_four   -- for this text's walks alone
def tenorref5_Third.l0 : Nat → Int → Option (Int × Int)
  | 0, _ => none
  | k + 1, x6 => if (Int.tmod x6 7) = 2 then (some (x6, 0)) else (tenorref5_Third.l0 k (wrap64 (x6 + 1)))
def tenorref5_Third.f (k : Nat) (a0 a1 : Int) : Option (Int × Int) := (tenorref5_Of.f k a0 a1 15).bind fun bt795 => (if bt795.2 = 0 then (tenorref5_Third.l0 k bt795.1) else (some (0, bt795.2)))
set_option maxHeartbeats 8000000 in
set_option maxRecDepth 100000 in
theorem tenorref5_Third.calls (k : Nat) (a0 a1 r1 r2 : Int) (w : World) (h : tenorref5_Third.f k a0 a1 = some (r1, r2)) :
  Calls Try.prog 118 #[.int .i64 a0, .int .i64 a1] w fun e w' => e = .returned (.tuple #[.int .i64 r1, .int .i64 r2]) ∧ Drawn0 w w' := by
 have H : ((tenorref5_Of.f k a0 a1 15).bind fun bt795 => (if bt795.2 = 0 then (tenorref5_Third.l0 k bt795.1) else (some (0, bt795.2)))) = some (r1, r2) := h
 clear h;replace H := Option.bind_eq_some_iff.mp H
 obtain ⟨⟨t795, t796⟩, A30, H⟩ := H
 replace H : (if t796 = 0 then (tenorref5_Third.l0 k t795) else (some (0, t796))) = some (r1, r2) := H
 have A3 := Aside0.mk A30;clear A30
 by_cases c4 : t796 = 0
 ·
  rw [if_pos c4] at H
  have c4b0 : (t796 == 0) = true := beq_iff_eq.mpr c4
  have c4b1 : (t796 != 0) = false := bne_eq_false_iff_eq.mpr c4
  clear c4;have H' := Aside0.mk H;clear H
  go_enter Try.func118, Try.ntmps118
  go_wp2_with (first | ((with_reducible refine gG 97 ?_); refine goA (some 11) Try.func97 #[.int .i64 a0, .int .i64 a1, .int .i64 15] ?_; (with_reducible refine (tenorref5_Of.calls k a0 a1 15 t795 t796 _ A3.out).mono ?_); rintro e w' ⟨rfl, ⟨nd, rfl⟩⟩; refine ⟨_, rfl, ?_⟩))
  go_loopg [6] k (fun kq v6 w' => ∃ (x6_1 : Int), v6 = .int .i64 x6_1 ∧ Aside0 (tenorref5_Third.l0 kq x6_1 = some (r1, r2)) ∧ Aside0 (kq ≤ k) ∧ Drawn0 w w')
  case atStart => exact ⟨(t795), eS, H', ⟨Nat.le_refl _⟩, eD⟩
  case round =>
   clear H'
   obtain ⟨x6_1, rfl, HA, HK1, ⟨m1, rfl⟩⟩ := hrel
   cases gk with
   | zero => exact absurd HA.out (by simp [tenorref5_Third.l0])
   | succ k1 =>
    have H := HA.out;clear HA
    simp only [tenorref5_Third.l0] at H
    by_cases c5 : (Int.tmod x6_1 7) = 2
    ·
     rw [if_pos c5] at H
     have c5b0 : ((Int.tmod x6_1 7) == 2) = true := beq_iff_eq.mpr c5
     have c5b1 : ((Int.tmod x6_1 7) != 2) = false := bne_eq_false_iff_eq.mpr c5
     clear c5
     simp only [Option.some.injEq, Prod.mk.injEq] at H
     obtain ⟨rfl, rfl⟩ := H
     go_wp2
     go_ret2
     exact ⟨eS, eD⟩
    ·
     rw [if_neg c5] at H
     have c5b0 : ((Int.tmod x6_1 7) == 2) = false := beq_eq_false_iff_ne.mpr c5
     have c5b1 : ((Int.tmod x6_1 7) != 2) = true := bne_iff_ne.mpr c5
     have H' := Aside0.mk H;clear H
     go_wp2
     go_roundg k1
     case measure => have := HK1.out; omega
     case rel => exact ⟨(wrap64 (x6_1 + 1)), eS, H', ⟨by have := HK1.out; omega⟩, eD⟩
 ·
  rw [if_neg c4] at H
  have c4b0 : (t796 == 0) = false := beq_eq_false_iff_ne.mpr c4
  have c4b1 : (t796 != 0) = true := bne_iff_ne.mpr c4
  simp only [Option.some.injEq, Prod.mk.injEq] at H
  obtain ⟨rfl, rfl⟩ := H
  go_enter Try.func118, Try.ntmps118
  go_wp2_with (first | ((with_reducible refine gG 97 ?_); refine goA (some 11) Try.func97 #[.int .i64 a0, .int .i64 a1, .int .i64 15] ?_; (with_reducible refine (tenorref5_Of.calls k a0 a1 15 t795 t796 _ A3.out).mono ?_); rintro e w' ⟨rfl, ⟨nd, rfl⟩⟩; refine ⟨_, rfl, ?_⟩))
  go_ret2
  exact ⟨eS, eD⟩
end Go.Proofs.Ytoncignjcgjhhaa.Q
namespace Go.Proofs.Ytoncignjcgjhhaa.R
open Go.RowKit Go.Proofs.YtoncignjcgjhhaaW.PrintWords Go.Proofs.YtoncignjcgjhhaaW.PrintLast Go.Proofs.YtoncignjcgjhhaaW.PrintMore
open Go.Proofs.Ytoncignjcgjhhaa.Q
open Go.Proofs.Ytoncignjcgjhhaa.L (w64 td tm tm0)
def mon5 (n k : Int) : Int × Int × Bool := if M.monthsOk n k then (M.mAt n k / 12, M.mAt n k % 12 + 1, true) else (0, 0, false)
theorem Month5 (n k : Int) (hn : 0 ≤ n ∧ n ≤ 109572) : Ev (fun q => tenorref5_Month.f q (M.civY n) (M.civM n) (M.civD n) k) (mon5 n k) := by
 have hs := (M.civ_spec n hn.1 hn.2).1
 unfold M.isDate at hs
 have ht : Ev (fun q => tenorref5_Month.j0 q k true (M.civY n) (M.civM n) (M.civD n)) ((0, 0, false) : Int × Int × Bool) :=
  Ev.step (f := fun _ => some ((0, 0, false) : Int × Int × Bool)) (fun q => by rw [tenorref5_Month.j0, if_pos rfl]) (Ev.now _)
 unfold mon5
 by_cases h0 : k < -4000
 ·
  rw [if_neg (fun h => by have := h.1; omega)]
  exact Ev.congr (fun q => by unfold tenorref5_Month.f; rw [if_pos h0]) ht
 ·
  by_cases h1 : k > 4000
  ·
   rw [if_neg (fun h => by have := h.2.1; omega)]
   exact Ev.congr (fun q => by unfold tenorref5_Month.f; rw [if_neg h0, decide_eq_true h1]) ht
  ·
   have hm : 0 ≤ M.mAt n k := by unfold M.mAt; omega
   have hm2 : M.mAt n k ≤ 40000 := by unfold M.mAt; omega
   have e1 : wrap64 (wrap64 (wrap64 (wrap64 (12 * M.civY n) + M.civM n) - 1) + k) = M.mAt n k := by
    unfold M.mAt
    rw [w64 (x := 12 * M.civY n) (by omega) (by omega), w64 (x := 12 * M.civY n + M.civM n) (by omega) (by omega), w64 (x := 12 * M.civY n + M.civM n - 1) (by omega) (by omega), w64 (by omega) (by omega)]
   have e2 : wrap64 (Int.tdiv (M.mAt n k) 12) = M.mAt n k / 12 := by rw [td hm, w64 (by omega) (by omega)]
   have e3 : wrap64 (Int.tmod (M.mAt n k) 12 + 1) = M.mAt n k % 12 + 1 := by rw [tm hm, w64 (by omega) (by omega)]
   refine Ev.congr (fun q => by unfold tenorref5_Month.f; rw [if_neg h0, decide_eq_false h1]) ?_
   refine Ev.step (f := fun _ => some (if M.monthsOk n k then (M.mAt n k / 12, M.mAt n k % 12 + 1, true) else ((0, 0, false) : Int × Int × Bool))) (fun q => ?_) (Ev.now _)
   have hok : M.monthsOk n k ↔ 22800 ≤ M.mAt n k ∧ M.mAt n k ≤ 26399 := by unfold M.monthsOk; omega
   rw [tenorref5_Month.j0, if_neg (by decide), e1, e2, e3]
   by_cases c1 : M.mAt n k < 22800
   ·
    rw [if_pos c1, if_neg (fun h => by have := hok.1 h; omega)]
   ·
    rw [if_neg c1]
    by_cases c2 : M.mAt n k > 26399
    ·
     rw [if_pos c2, if_neg (fun h => by have := hok.1 h; omega)]
    ·
     rw [if_neg c2, if_pos (hok.2 (by omega))]
theorem Months5 (n k : Int) (hn : 0 ≤ n ∧ n ≤ 109572) : Ev (fun q => tenorref5_Months.f q n k false) (M.months n k false) := by
 have hc := Civil n
 rw [if_pos hn] at hc
 refine Ev.congr (fun q => by unfold tenorref5_Months.f; rfl) (Ev.bind hc ?_)
 refine Ev.congr (fun q => if_pos rfl) (Ev.bind (Month5 n k hn) ?_)
 unfold M.months mon5
 rw [if_pos hn]
 by_cases ho : M.monthsOk n k
 ·
  rw [if_pos ho, if_pos ho]
  refine Ev.congr (fun q => if_pos rfl) (Ev.bind (length _ _) ?_)
  refine Ev.congr (fun q => if_neg (by decide)) ?_
  have e : mn (M.civD n) (M.mlen (M.mAt n k / 12) (M.mAt n k % 12 + 1)) = M.monthsDay n k false := by
   unfold mn M.monthsDay
   rw [if_neg (fun h : false = true ∧ _ => absurd h.1 (by decide))]
  have ho2 := Of (M.mAt n k / 12) (M.mAt n k % 12 + 1) (M.monthsDay n k false)
  rw [if_pos (M.monthsDate false hn ho)] at ho2
  refine Ev.step (fun q => by rw [tenorref5_Months.j0, if_neg (by decide), e]) (Ev.bind ho2 (Ev.now _))
 ·
  rw [if_neg ho, if_neg ho]
  exact Ev.congr (fun q => if_neg (by decide)) (Ev.now _)
theorem Third5_l0 (x : Int) (h0 : 0 ≤ x) (h1 : x ≤ 200000) : ∀ (f : Nat) (n : Int), x ≤ n → n ≤ x + 7 → n ≤ x + (9 - x % 7) % 7 → x + (9 - x % 7) % 7 - n = f → Ev (fun q => tenorref5_Third.l0 q n) (x + (9 - x % 7) % 7, (0 : Int))
 | 0, n, a, b, c, d => by
  have e : n = x + (9 - x % 7) % 7 := by omega
  refine Ev.step (f := fun _ => some (x + (9 - x % 7) % 7, (0 : Int))) (fun q => ?_) (Ev.now _)
  rw [tenorref5_Third.l0, tm (by omega), if_pos (by omega), e]
 | f + 1, n, a, b, c, d => by
  refine Ev.step (fun q => ?_) (Third5_l0 x h0 h1 f (n + 1) (by omega) (by omega) (by omega) (by omega))
  rw [tenorref5_Third.l0, tm (by omega), if_neg (by omega), w64 (by omega) (by omega)]
theorem Third5 (y m : Int) (h : 1900 ≤ y ∧ y ≤ 2199 ∧ 1 ≤ m ∧ m ≤ 12) : Ev (fun q => tenorref5_Third.f q y m) (M.third y m, (0 : Int)) := by
 have ho2 := Of y m 15
 rw [if_pos (M.d15 h)] at ho2
 have hr := M.day_rng (M.d15 h)
 refine Ev.congr (fun q => by unfold tenorref5_Third.f; rfl) (Ev.bind ho2 ?_)
 refine Ev.congr (fun q => if_pos rfl) ?_
 exact Third5_l0 (M.dayOf y m 15) hr.1 (by omega) ((9 - M.dayOf y m 15 % 7) % 7).toNat _ (Int.le_refl _) (by omega) (by omega) (by omega)
end Go.Proofs.Ytoncignjcgjhhaa.R
namespace Go.Proofs.Ytoncignjcgjhhaa.R
open Go.RowKit Go.Proofs.YtoncignjcgjhhaaW.PrintWords Go.Proofs.YtoncignjcgjhhaaW.PrintLast Go.Proofs.YtoncignjcgjhhaaW.PrintMore
open Go.Proofs.Ytoncignjcgjhhaa.Q
open Go.Proofs.Ytoncignjcgjhhaa.L (w64 td tm tm0)
theorem in_ (a b c : Int) : tenorref6_in.f a b c = some (decide (b ≤ a ∧ a ≤ c)) := by
  have := L.within a b c; unfold cal_within.f at this; unfold tenorref6_in.f; exact this
theorem rd_eq (l : List S63) (i : Nat) (h : i < l.length) : rd_T63 l (i : Int) = l[i] := by simp [rd_T63, h]
theorem Check_l0 (we : Int) (l : List S63) (hlen : l.length ≤ 64) : ∀ (f i : Nat), i ≤ l.length → l.length - i = f → Ev (fun k => tenorref6_Check.l0 k (i : Int) we l) (M.chkAt ((l.drop i).map H.ru) i)
 | 0, i, a, b => by
  have e : i = l.length := by omega
  have c1 : ¬ (i : Int) < (l.length : Int) := by omega
  refine Ev.step (f := fun _ => some (M.chkAt ((l.drop i).map H.ru) i)) (fun k => ?_) (Ev.now _)
  rw [tenorref6_Check.l0, if_neg c1, e, List.drop_length]; rfl
 | f + 1, i, a, b => by
  have hlt : i < l.length := by omega
  have ih := Check_l0 we l hlen f (i + 1) (by omega) (by omega)
  have c1 : (i : Int) < (l.length : Int) := by omega
  have c2 : (0 : Int) ≤ (i : Int) := by omega
  have hw : wrap64 ((i : Int) + 1) = ((i + 1 : Nat) : Int) := by rw [w64 (by omega) (by omega)]; push_cast; rfl
  have hl0 : ∀ k, tenorref6_Check.l0 (k + 1) (i : Int) we l = if M.may (H.ru l[i]) = true then tenorref6_Check.l0 k ((i + 1 : Nat) : Int) we l else some (60, (i : Int)) := by
   intro k
   rw [tenorref6_Check.l0, if_pos c1, if_pos c2, rd_eq l i hlt, hw]
   rfl
  rw [List.drop_eq_getElem_cons hlt, List.map_cons]
  unfold M.chkAt
  by_cases hm : M.may (H.ru l[i]) = true
  ·
   rw [if_pos hm]
   push_cast at ih
   exact Ev.step (fun k => by rw [hl0 k, if_pos hm]; push_cast; rfl) ih
  ·
   rw [if_neg hm]
   exact Ev.step (f := fun _ => some ((60 : Int), (i : Int))) (fun k => by rw [hl0 k, if_neg hm]) (Ev.now _)
theorem Check (we : Int) (l : List S63) : Ev (fun k => tenorref6_Check.f k we l) (M.chk we (l.map H.ru)) := by
 unfold M.chk
 by_cases h : 64 < l.length
 ·
  have c1 : (l.length : Int) > 64 := by omega
  rw [if_pos (by simpa using h)]
  exact Ev.congr (fun k => by unfold tenorref6_Check.f; rw [if_pos c1]) (Ev.now _)
 ·
  have c1 : ¬ (l.length : Int) > 64 := by omega
  rw [if_neg (by simpa using h)]
  by_cases hw : 0 ≤ we ∧ we ≤ 126
  ·
   rw [if_pos hw]
   have h0 := Check_l0 we l (by omega) l.length 0 (by omega) (by omega)
   refine Ev.congr (fun k => ?_) h0
   unfold tenorref6_Check.f
   rw [if_neg c1, in_, decide_eq_true hw]; rfl
  ·
   rw [if_neg hw]
   refine Ev.congr (fun k => ?_) (Ev.now _)
   unfold tenorref6_Check.f
   rw [if_neg c1, in_, decide_eq_false hw]; rfl
theorem mays {we : Int} {l : List S63} (h : (M.chk we (l.map H.ru)).1 = 0) : 0 ≤ we ∧ we ≤ 126 ∧ l.length ≤ 64 ∧ ∀ r ∈ l, M.may (H.ru r) = true :=
 have h := M.chk_ok h
 ⟨h.2.2.1, h.2.2.2.1, by simpa using h.2.1, fun x hx => h.2.2.2.2 _ (List.mem_map_of_mem hx)⟩
end Go.Proofs.Ytoncignjcgjhhaa.R
namespace Go.Proofs.Ytoncignjcgjhhaa.Q
open Go.RowKit Go.Proofs.YtoncignjcgjhhaaW.PrintWords Go.Proofs.YtoncignjcgjhhaaW.PrintLast Go.Proofs.YtoncignjcgjhhaaW.PrintMore
attribute [local go_sem] max2_int min2_int max_two min_two max_three min_three max_four min_four   -- for this text's walks alone
def tenorref8_in.f (a0 a1 a2 : Int) : Option (Bool) := if a0 ≥ a1 then (some (decide (a0 ≤ a2))) else (some false)
set_option maxHeartbeats 8000000 in
set_option maxRecDepth 100000 in
theorem tenorref8_in.calls (a0 a1 a2 : Int) (r : Bool) (w : World) (h : tenorref8_in.f a0 a1 a2 = some r) :
  Calls Try.prog 92 #[.int .i64 a0, .int .i64 a1, .int .i64 a2] w fun e w' => e = .returned (.bool r) ∧ Drawn0 w w' := by
 have H : (if a0 ≥ a1 then (some (decide (a0 ≤ a2))) else (some false)) = some r := h
 clear h
 by_cases c4 : a0 ≥ a1
 ·
  rw [if_pos c4] at H
  have c4b0 : decide (a1 ≤ a0) = true := decide_eq_true c4
  clear c4
  obtain rfl := Option.some.inj H
  go_enter Try.func92, Try.ntmps92
  go_wp2
  go_ret
  exact ⟨eS, eD⟩
 ·
  rw [if_neg c4] at H
  have c4b0 : decide (a1 ≤ a0) = false := decide_eq_false c4
  clear c4
  obtain rfl := Option.some.inj H
  go_enter Try.func92, Try.ntmps92
  go_wp2
  go_ret
  exact ⟨eS, eD⟩
end Go.Proofs.Ytoncignjcgjhhaa.Q
