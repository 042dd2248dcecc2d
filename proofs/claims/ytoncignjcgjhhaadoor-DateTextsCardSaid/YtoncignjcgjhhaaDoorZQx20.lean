/- Contracts of functions of the seat's program: each Go function's Lean function and its walk, written by a program of this session over the kit's print. Not trusted: Lean checks it. -/
import Derived.Test.YtoncignjcgjhhaaDoorZGA
import Derived.Test.YtoncignjcgjhhaaDoorZGB
import Derived.Test.YtoncignjcgjhhaaDoorZU
set_option linter.unusedVariables false
set_option linter.unusedSimpArgs false
namespace Go.Proofs.YtoncignjcgjhhaaDoor.Q
open Go.RowKit Go.Proofs.YtoncignjcgjhhaaDoorW.PrintWords Go.Proofs.YtoncignjcgjhhaaDoorW.PrintLast Go.Proofs.YtoncignjcgjhhaaDoorW.PrintMore
attribute [local go_sem] max2_int min2_int max_two min_two max_three min_three max_four min_four   -- for this text's walks alone
def tenorref5_number.l0 : Nat → ByteArray → Int → Int → Option (Int)
  | 0, _, _, _ => none
  | k + 1, x0, x3, x4 => if x4 < (x0.size : Int) then (if 0 ≤ x4 then (if (bt x0 x4) < 48 then (some (-1)) else (if (bt x0 x4) > 57 then (some (-1)) else (tenorref5_number.l0 k x0 (wrap64 ((wrap64 (10 * x3)) + (((bt x0 x4) - 48) % 256))) (wrap64 (x4 + 1))))) else (none)) else (some x3)
def tenorref5_number.f (k : Nat) (a0 : ByteArray) : Option (Int) := tenorref5_number.l0 k a0 0 0
theorem tenorref5_number.mono_l : ∀ k, (∀ y0 y1 y2, LeO (tenorref5_number.l0 k y0 y1 y2) (tenorref5_number.l0 (k + 1) y0 y1 y2))
 | 0 => fun _ _ _ r h => by simp [tenorref5_number.l0] at h
 | k + 1 => by
  have ih0 := tenorref5_number.mono_l k
  ·
   intro y0 y1 y2
   unfold tenorref5_number.l0
   repeat' first
   | (with_reducible exact ih0 _ _ _)
   | (with_reducible exact LeO.refl _)
   | (with_reducible exact LeO.none _)
   | (with_reducible refine LeO.ite ?_ ?_)
   | (with_reducible refine LeO.bind ?_ (fun _ => ?_))
   | exact ih0 _ _ _
   | exact LeO.none _
   | refine LeO.ite ?_ ?_
   | refine LeO.bind ?_ (fun _ => ?_)
theorem tenorref5_number.mono : ∀ a0 k, LeO (tenorref5_number.f k a0) (tenorref5_number.f (k + 1) a0) := by
 intro a0 k
 have ih0 := tenorref5_number.mono_l k
 unfold tenorref5_number.f
 repeat' first
   | (with_reducible exact ih0 _ _ _)
   | (with_reducible exact LeO.refl _)
   | (with_reducible exact LeO.none _)
   | (with_reducible refine LeO.ite ?_ ?_)
   | (with_reducible refine LeO.bind ?_ (fun _ => ?_))
   | exact ih0 _ _ _
   | exact LeO.none _
   | refine LeO.ite ?_ ?_
   | refine LeO.bind ?_ (fun _ => ?_)
set_option maxHeartbeats 8000000 in
set_option maxRecDepth 100000 in
theorem tenorref5_number.calls (k : Nat) (a0 : ByteArray) (r : Int) (w : World) (h : tenorref5_number.f k a0 = some r) :
  Calls Tryd.prog 35 #[.string a0] w fun e w' => e = .returned (.int .i64 r) ∧ Drawn0 w w' := by
 have H : (tenorref5_number.l0 k a0 0 0) = some r := h
 clear h;have H' := Aside0.mk H;clear H
 go_enter Tryd.func35, Tryd.ntmps35
 go_wp2
 go_loopg [3, 4] k (fun kq v3 v4 w' => ∃ (x3_1 : Int) (x4_1 : Int), v3 = .int .i64 x3_1 ∧ v4 = .int .i64 x4_1 ∧ Aside0 (tenorref5_number.l0 kq a0 x3_1 x4_1 = some r) ∧ Aside0 (kq ≤ k) ∧ Drawn0 w w')
 case atStart => exact ⟨(0), (0), (by first | rfl | (simp; done) | (simp [*]; done)), (by first | rfl | (simp; done) | (simp [*]; done)), H', ⟨Nat.le_refl _⟩, by repeat (first | exact Drawn0.refl _ | apply Drawn0.step)⟩
 case round =>
  clear H'
  obtain ⟨x3_1, x4_1, rfl, rfl, HA, HK1, ⟨m1, rfl⟩⟩ := hrel
  cases gk with
  | zero => exact absurd HA.out (by simp [tenorref5_number.l0])
  | succ k1 =>
   have H := HA.out;clear HA
   simp only [tenorref5_number.l0] at H
   by_cases c2 : x4_1 < (a0.size : Int)
   ·
    rw [if_pos c2] at H
    have c2b0 : decide (x4_1 < (a0.size : Int)) = true := decide_eq_true c2
    clear c2
    by_cases c3 : 0 ≤ x4_1
    ·
     rw [if_pos c3] at H
     have c3b0 : decide (0 ≤ x4_1) = true := decide_eq_true c3
     clear c3
     by_cases c5 : (bt a0 x4_1) < 48
     ·
      rw [if_pos c5] at H
      have c5b0 : decide ((bt a0 x4_1) < 48) = true := decide_eq_true c5
      clear c5
      obtain rfl := Option.some.inj H
      have p4 : 0 ≤ (x4_1 : Int) := of_decide_eq_true (by first | (with_reducible assumption) | assumption)
      have q4 : x4_1 < (a0.size : Int) := of_decide_eq_true (by first | (with_reducible assumption) | assumption)
      have hx4 := bt_at a0 x4_1;replace p4 := eq_true p4;replace q4 := eq_true q4
      go_wp2
      go_ret
      exact ⟨by first | rfl | (simp; done) | (simp [*]; done), by repeat (first | exact Drawn0.refl _ | apply Drawn0.step)⟩
     ·
      rw [if_neg c5] at H
      have c5b0 : decide ((bt a0 x4_1) < 48) = false := decide_eq_false c5
      clear c5
      by_cases c7 : (bt a0 x4_1) > 57
      ·
       rw [if_pos c7] at H
       have c7b0 : decide (57 < (bt a0 x4_1)) = true := decide_eq_true c7
       clear c7
       obtain rfl := Option.some.inj H
       have p4 : 0 ≤ (x4_1 : Int) := of_decide_eq_true (by first | (with_reducible assumption) | assumption)
       have q4 : x4_1 < (a0.size : Int) := of_decide_eq_true (by first | (with_reducible assumption) | assumption)
       have hx4 := bt_at a0 x4_1;replace p4 := eq_true p4;replace q4 := eq_true q4
       have p6 : 0 ≤ (x4_1 : Int) := of_decide_eq_true (by first | (with_reducible assumption) | assumption)
       have q6 : x4_1 < (a0.size : Int) := of_decide_eq_true (by first | (with_reducible assumption) | assumption)
       have hx6 := bt_at a0 x4_1;replace p6 := eq_true p6;replace q6 := eq_true q6
       go_wp2
       go_ret
       exact ⟨by first | rfl | (simp; done) | (simp [*]; done), by repeat (first | exact Drawn0.refl _ | apply Drawn0.step)⟩
      ·
       rw [if_neg c7] at H
       have c7b0 : decide (57 < (bt a0 x4_1)) = false := decide_eq_false c7
       clear c7;have H' := Aside0.mk H;clear H
       have p4 : 0 ≤ (x4_1 : Int) := of_decide_eq_true (by first | (with_reducible assumption) | assumption)
       have q4 : x4_1 < (a0.size : Int) := of_decide_eq_true (by first | (with_reducible assumption) | assumption)
       have hx4 := bt_at a0 x4_1;replace p4 := eq_true p4;replace q4 := eq_true q4
       have p6 : 0 ≤ (x4_1 : Int) := of_decide_eq_true (by first | (with_reducible assumption) | assumption)
       have q6 : x4_1 < (a0.size : Int) := of_decide_eq_true (by first | (with_reducible assumption) | assumption)
       have hx6 := bt_at a0 x4_1;replace p6 := eq_true p6;replace q6 := eq_true q6
       have p8 : 0 ≤ (x4_1 : Int) := of_decide_eq_true (by first | (with_reducible assumption) | assumption)
       have q8 : x4_1 < (a0.size : Int) := of_decide_eq_true (by first | (with_reducible assumption) | assumption)
       have hx8 := bt_at a0 x4_1;replace p8 := eq_true p8;replace q8 := eq_true q8
       go_wp2
       go_roundg k1
       case measure => have := HK1.out; omega
       case rel => exact ⟨(wrap64 ((wrap64 (10 * x3_1)) + (((bt a0 x4_1) - 48) % 256))), (wrap64 (x4_1 + 1)), (by first | rfl | (simp; done) | (simp [*]; done)), (by first | rfl | (simp; done) | (simp [*]; done)), H', ⟨by have := HK1.out; omega⟩, by repeat (first | exact Drawn0.refl _ | apply Drawn0.step)⟩
    ·
     rw [if_neg c3] at H
     exact absurd H (by simp)
   ·
    rw [if_neg c2] at H
    have c2b0 : decide (x4_1 < (a0.size : Int)) = false := decide_eq_false c2
    clear c2
    obtain rfl := Option.some.inj H
    go_wp2
    go_ret
    exact ⟨by first | rfl | (simp; done) | (simp [*]; done), by repeat (first | exact Drawn0.refl _ | apply Drawn0.step)⟩
def tenorref5_Parse.j0 : Nat → ByteArray → Bool → Option (Int × Int)
  | 0, _, _ => none
  | k + 1, x0, x16 => if x16 = true then (some (0, 50)) else (if 0 ≤ 4 then (if 4 ≤ (x0.size : Int) then ((tenorref5_number.f k (x0.extract 0 4)).bind fun t279 => (if 5 ≤ 7 then (if 7 ≤ (x0.size : Int) then ((tenorref5_number.f k (x0.extract 5 7)).bind fun t280 => (if 8 ≤ (x0.size : Int) then ((tenorref5_number.f k (x0.extract 8 x0.size)).bind fun t281 => ((tenorref5_Of.f k t279 t280 t281).bind fun bt282 => (some (bt282.1, bt282.2)))) else (none))) else (none)) else (none))) else (none)) else (none))
def tenorref5_Parse.f (k : Nat) (a0 : ByteArray) : Option (Int × Int) := if (a0.size : Int) = 10 then (if 4 < (a0.size : Int) then (if (bt a0 4) = 45 then (if 7 < (a0.size : Int) then (tenorref5_Parse.j0 k a0 ((bt a0 7) != 45)) else (none)) else (tenorref5_Parse.j0 k a0 true)) else (none)) else (tenorref5_Parse.j0 k a0 true)
theorem tenorref5_Parse.mono_l : ∀ k, (∀ y0 y1, LeO (tenorref5_Parse.j0 k y0 y1) (tenorref5_Parse.j0 (k + 1) y0 y1))
 | 0 => fun _ _ r h => by simp [tenorref5_Parse.j0] at h
 | k + 1 => by
  have ih0 := tenorref5_Parse.mono_l k
  ·
   intro y0 y1
   unfold tenorref5_Parse.j0
   repeat' first
   | (with_reducible exact ih0 _ _)
   | (with_reducible exact tenorref5_Of.mono _ _ _ _)
   | (with_reducible exact tenorref5_number.mono _ _)
   | (with_reducible exact LeO.refl _)
   | (with_reducible exact LeO.none _)
   | (with_reducible refine LeO.ite ?_ ?_)
   | (with_reducible refine LeO.bind ?_ (fun _ => ?_))
   | exact ih0 _ _
   | exact tenorref5_Of.mono _ _ _ _
   | exact tenorref5_number.mono _ _
   | exact LeO.none _
   | refine LeO.ite ?_ ?_
   | refine LeO.bind ?_ (fun _ => ?_)
theorem tenorref5_Parse.mono : ∀ a0 k, LeO (tenorref5_Parse.f k a0) (tenorref5_Parse.f (k + 1) a0) := by
 intro a0 k
 have ih0 := tenorref5_Parse.mono_l k
 unfold tenorref5_Parse.f
 repeat' first
   | (with_reducible exact ih0 _ _)
   | (with_reducible exact tenorref5_Of.mono _ _ _ _)
   | (with_reducible exact tenorref5_number.mono _ _)
   | (with_reducible exact LeO.refl _)
   | (with_reducible exact LeO.none _)
   | (with_reducible refine LeO.ite ?_ ?_)
   | (with_reducible refine LeO.bind ?_ (fun _ => ?_))
   | exact ih0 _ _
   | exact tenorref5_Of.mono _ _ _ _
   | exact tenorref5_number.mono _ _
   | exact LeO.none _
   | refine LeO.ite ?_ ?_
   | refine LeO.bind ?_ (fun _ => ?_)
set_option maxHeartbeats 8000000 in
set_option maxRecDepth 100000 in
theorem tenorref5_Parse.calls (k : Nat) (a0 : ByteArray) (r1 : Int) (r2 : Int) (w : World) (h : tenorref5_Parse.f k a0 = some (r1, r2)) :
  Calls Tryd.prog 16 #[.string a0] w fun e w' => e = .returned (.tuple #[.int .i64 r1, .int .i64 r2]) ∧ Drawn0 w w' := by
 have H : (if (a0.size : Int) = 10 then (if 4 < (a0.size : Int) then (if (bt a0 4) = 45 then (if 7 < (a0.size : Int) then (tenorref5_Parse.j0 k a0 ((bt a0 7) != 45)) else (none)) else (tenorref5_Parse.j0 k a0 true)) else (none)) else (tenorref5_Parse.j0 k a0 true)) = some (r1, r2) := h
 clear h;have HC2 := Aside0.mk H;clear H
 go_enter Tryd.func16, Tryd.ntmps16
 go_upto_region 1 with (fail)
 repeat (go_quiet (fail); go_upto_region 1 with (fail))
 go_cut [16] (fun v16 wc => ∃ (kq : Nat) (x16_1 : Bool), v16 = .bool x16_1 ∧ Aside0 (tenorref5_Parse.j0 kq a0 x16_1 = some (r1, r2)) ∧ Aside0 (kq ≤ k) ∧ Drawn0 w wc)
 case first =>
  have H := HC2.out;clear HC2
  by_cases c3 : (a0.size : Int) = 10
  ·
   rw [if_pos c3] at H
   have c3b0 : ((a0.size : Int) == 10) = true := beq_iff_eq.mpr c3
   have c3b1 : ((a0.size : Int) != 10) = false := bne_eq_false_iff_eq.mpr c3
   clear c3
   (first | rw [c3b0] | (simp only [i64_w, i32_w]; rw [c3b0]) | skip)
   by_cases c4 : 4 < (a0.size : Int)
   ·
    rw [if_pos c4] at H
    have c4b0 : decide (4 < (a0.size : Int)) = true := decide_eq_true c4
    have c4b1 : decide (4 < a0.size) = true := decide_eq_true (by omega)
    clear c4
    by_cases c6 : (bt a0 4) = 45
    ·
     rw [if_pos c6] at H
     have c6b0 : ((bt a0 4) == 45) = true := beq_iff_eq.mpr c6
     have c6b1 : ((bt a0 4) != 45) = false := bne_eq_false_iff_eq.mpr c6
     clear c6
     by_cases c7 : 7 < (a0.size : Int)
     ·
      rw [if_pos c7] at H
      have c7b0 : decide (7 < (a0.size : Int)) = true := decide_eq_true c7
      have c7b1 : decide (7 < a0.size) = true := decide_eq_true (by omega)
      clear c7;have H' := Aside0.mk H;clear H
      have p5 : 0 ≤ (4 : Int) := (by omega)
      have q5 : 4 < a0.size := (by have : (4 : Int) < (a0.size : Int) := of_decide_eq_true (by first | (with_reducible assumption) | assumption); omega)
      have hx5 : ∀ h : 4 < a0.size, ((a0[4]'h).toNat : Int) = bt a0 4 := bt_at a0 4
      clear p5
      have qi5 : (4 < (a0.size : Int)) = True := eq_true (of_decide_eq_true (by first | (with_reducible assumption) | assumption))
      replace q5 := eq_true q5
      have p8 : 0 ≤ (7 : Int) := (by omega)
      have q8 : 7 < a0.size := (by have : (7 : Int) < (a0.size : Int) := of_decide_eq_true (by first | (with_reducible assumption) | assumption); omega)
      have hx8 : ∀ h : 7 < a0.size, ((a0[7]'h).toNat : Int) = bt a0 7 := bt_at a0 7
      clear p8
      have qi8 : (7 < (a0.size : Int)) = True := eq_true (of_decide_eq_true (by first | (with_reducible assumption) | assumption))
      replace q8 := eq_true q8
      go_wp2
      repeat (go_quiet (fail); try go_wp2)
      go_meet
      case rel => exact ⟨_, (((bt a0 7) != 45)), (by first | rfl | (simp; done) | (simp [*]; done)), H', ⟨by first | omega | exact Nat.le_refl _⟩, by repeat (first | exact Drawn0.refl _ | apply Drawn0.step)⟩
     ·
      rw [if_neg c7] at H
      exact absurd H (by simp)
    ·
     rw [if_neg c6] at H
     have c6b0 : ((bt a0 4) == 45) = false := beq_eq_false_iff_ne.mpr c6
     have c6b1 : ((bt a0 4) != 45) = true := bne_iff_ne.mpr c6
     have H' := Aside0.mk H;clear H
     have p5 : 0 ≤ (4 : Int) := (by omega)
     have q5 : 4 < a0.size := (by have : (4 : Int) < (a0.size : Int) := of_decide_eq_true (by first | (with_reducible assumption) | assumption); omega)
     have hx5 : ∀ h : 4 < a0.size, ((a0[4]'h).toNat : Int) = bt a0 4 := bt_at a0 4
     clear p5
     have qi5 : (4 < (a0.size : Int)) = True := eq_true (of_decide_eq_true (by first | (with_reducible assumption) | assumption))
     replace q5 := eq_true q5
     go_wp2
     repeat (go_quiet (fail); try go_wp2)
     go_meet
     case rel => exact ⟨_, (true), (by first | rfl | (simp; done) | (simp [*]; done)), H', ⟨by first | omega | exact Nat.le_refl _⟩, by repeat (first | exact Drawn0.refl _ | apply Drawn0.step)⟩
   ·
    rw [if_neg c4] at H
    exact absurd H (by simp)
  ·
   rw [if_neg c3] at H
   have c3b0 : ((a0.size : Int) == 10) = false := beq_eq_false_iff_ne.mpr c3
   have c3b1 : ((a0.size : Int) != 10) = true := bne_iff_ne.mpr c3
   (first | rw [c3b0] | (simp only [i64_w, i32_w]; rw [c3b0]) | skip)
   have H' := Aside0.mk H;clear H
   go_wp2
   repeat (go_quiet (fail); try go_wp2)
   go_meet
   case rel => exact ⟨_, (true), (by first | rfl | (simp; done) | (simp [*]; done)), H', ⟨by first | omega | exact Nat.le_refl _⟩, by repeat (first | exact Drawn0.refl _ | apply Drawn0.step)⟩
 case rest =>
  clear HC2
  obtain ⟨kq, x16_1, rfl, HA, HJ1, ⟨mc1, rfl⟩⟩ := hcut
  cases kq with
  | zero => exact absurd HA.out (by simp [tenorref5_Parse.j0])
  | succ kj1 =>
   have H := HA.out;clear HA
   simp only [tenorref5_Parse.j0] at H
   by_cases c9 : x16_1 = true
   ·
    subst c9
    have H1 : (some (0, 50)) = some (r1, r2) := by rw [if_pos rfl] at H; exact H
    clear H;have H := H1;clear H1
    simp only [Option.some.injEq, Prod.mk.injEq] at H
    obtain ⟨rfl, rfl⟩ := H
    go_wp2
    repeat (go_quiet (fail); try go_wp2)
    go_ret2
    exact ⟨by first | rfl | (simp; done) | (simp [*]; done), by repeat (first | exact Drawn0.refl _ | apply Drawn0.step)⟩
   ·
    replace c9 := Bool.eq_false_iff.mpr c9;subst c9
    have H1 : (if 0 ≤ 4 then (if 4 ≤ (a0.size : Int) then ((tenorref5_number.f kj1 (a0.extract 0 4)).bind fun t279 => (if 5 ≤ 7 then (if 7 ≤ (a0.size : Int) then ((tenorref5_number.f kj1 (a0.extract 5 7)).bind fun t280 => (if 8 ≤ (a0.size : Int) then ((tenorref5_number.f kj1 (a0.extract 8 a0.size)).bind fun t281 => ((tenorref5_Of.f kj1 t279 t280 t281).bind fun bt282 => (some (bt282.1, bt282.2)))) else (none))) else (none)) else (none))) else (none)) else (none)) = some (r1, r2) := by rw [if_neg (show ¬ (false = true) by decide)] at H; exact H
    clear H;have H := H1;clear H1
    by_cases c10 : 0 ≤ 4
    ·
     rw [if_pos c10] at H
     have c10b0 := eq_true c10
     have c10b1 : decide (0 ≤ 4) = true := decide_eq_true c10
     clear c10
     by_cases c11 : 4 ≤ (a0.size : Int)
     ·
      rw [if_pos c11] at H
      have c11b0 := eq_true c11
      have c11b1 : decide (4 ≤ (a0.size : Int)) = true := decide_eq_true c11
      clear c11;replace H := Option.bind_eq_some_iff.mp H
      obtain ⟨t279, A120, H⟩ := H
      replace H : (if 5 ≤ 7 then (if 7 ≤ (a0.size : Int) then ((tenorref5_number.f kj1 (a0.extract 5 7)).bind fun t280 => (if 8 ≤ (a0.size : Int) then ((tenorref5_number.f kj1 (a0.extract 8 a0.size)).bind fun t281 => ((tenorref5_Of.f kj1 t279 t280 t281).bind fun bt282 => (some (bt282.1, bt282.2)))) else (none))) else (none)) else (none)) = some (r1, r2) := H
      have A12 := Aside0.mk A120;clear A120
      by_cases c13 : 5 ≤ 7
      ·
       rw [if_pos c13] at H
       have c13b0 := eq_true c13
       have c13b1 : decide (5 ≤ 7) = true := decide_eq_true c13
       clear c13
       by_cases c14 : 7 ≤ (a0.size : Int)
       ·
        rw [if_pos c14] at H
        have c14b0 := eq_true c14
        have c14b1 : decide (7 ≤ (a0.size : Int)) = true := decide_eq_true c14
        clear c14;replace H := Option.bind_eq_some_iff.mp H
        obtain ⟨t280, A150, H⟩ := H
        replace H : (if 8 ≤ (a0.size : Int) then ((tenorref5_number.f kj1 (a0.extract 8 a0.size)).bind fun t281 => ((tenorref5_Of.f kj1 t279 t280 t281).bind fun bt282 => (some (bt282.1, bt282.2)))) else (none)) = some (r1, r2) := H
        have A15 := Aside0.mk A150;clear A150
        by_cases c16 : 8 ≤ (a0.size : Int)
        ·
         rw [if_pos c16] at H
         have c16b0 := eq_true c16
         have c16b1 : decide (8 ≤ (a0.size : Int)) = true := decide_eq_true c16
         clear c16;replace H := Option.bind_eq_some_iff.mp H
         obtain ⟨t281, A170, H⟩ := H
         replace H : ((tenorref5_Of.f kj1 t279 t280 t281).bind fun bt282 => (some (bt282.1, bt282.2))) = some (r1, r2) := H
         have A17 := Aside0.mk A170;clear A170;replace H := Option.bind_eq_some_iff.mp H
         obtain ⟨⟨t282, t283⟩, A180, H⟩ := H
         replace H : (some (t282, t283)) = some (r1, r2) := H
         have A18 := Aside0.mk A180;clear A180
         simp only [Option.some.injEq, Prod.mk.injEq] at H
         obtain ⟨rfl, rfl⟩ := H
         go_wp2_with (first | (go_at_call 35; (with_reducible refine (tenorref5_number.calls kj1 (a0.extract 0 4) t279 _ A12.out).mono ?_); rintro e w' ⟨rfl, ⟨nd, rfl⟩⟩; (try first | exact ⟨rfl, _, World.drewN_drewN _ _ _⟩ | exact ⟨rfl, _, Eq.trans (World.drewN_drewN _ _ _) (congrArg (World.drewN _) (Nat.add_assoc _ _ _))⟩)) | (go_at_call 35; (with_reducible refine (tenorref5_number.calls kj1 (a0.extract 5 7) t280 _ A15.out).mono ?_); rintro e w' ⟨rfl, ⟨nd, rfl⟩⟩; (try first | exact ⟨rfl, _, World.drewN_drewN _ _ _⟩ | exact ⟨rfl, _, Eq.trans (World.drewN_drewN _ _ _) (congrArg (World.drewN _) (Nat.add_assoc _ _ _))⟩)) | (go_at_call 35; (with_reducible refine (tenorref5_number.calls kj1 (a0.extract 8 a0.size) t281 _ A17.out).mono ?_); rintro e w' ⟨rfl, ⟨nd, rfl⟩⟩; (try first | exact ⟨rfl, _, World.drewN_drewN _ _ _⟩ | exact ⟨rfl, _, Eq.trans (World.drewN_drewN _ _ _) (congrArg (World.drewN _) (Nat.add_assoc _ _ _))⟩)) | (go_at_call 22; (with_reducible refine (tenorref5_Of.calls kj1 t279 t280 t281 t282 t283 _ A18.out).mono ?_); rintro e w' ⟨rfl, ⟨nd, rfl⟩⟩; (try first | exact ⟨rfl, _, World.drewN_drewN _ _ _⟩ | exact ⟨rfl, _, Eq.trans (World.drewN_drewN _ _ _) (congrArg (World.drewN _) (Nat.add_assoc _ _ _))⟩)))
         repeat (go_quiet (first | (go_at_call 35; (with_reducible refine (tenorref5_number.calls kj1 (a0.extract 0 4) t279 _ A12.out).mono ?_); rintro e w' ⟨rfl, ⟨nd, rfl⟩⟩; (try first | exact ⟨rfl, _, World.drewN_drewN _ _ _⟩ | exact ⟨rfl, _, Eq.trans (World.drewN_drewN _ _ _) (congrArg (World.drewN _) (Nat.add_assoc _ _ _))⟩)) | (go_at_call 35; (with_reducible refine (tenorref5_number.calls kj1 (a0.extract 5 7) t280 _ A15.out).mono ?_); rintro e w' ⟨rfl, ⟨nd, rfl⟩⟩; (try first | exact ⟨rfl, _, World.drewN_drewN _ _ _⟩ | exact ⟨rfl, _, Eq.trans (World.drewN_drewN _ _ _) (congrArg (World.drewN _) (Nat.add_assoc _ _ _))⟩)) | (go_at_call 35; (with_reducible refine (tenorref5_number.calls kj1 (a0.extract 8 a0.size) t281 _ A17.out).mono ?_); rintro e w' ⟨rfl, ⟨nd, rfl⟩⟩; (try first | exact ⟨rfl, _, World.drewN_drewN _ _ _⟩ | exact ⟨rfl, _, Eq.trans (World.drewN_drewN _ _ _) (congrArg (World.drewN _) (Nat.add_assoc _ _ _))⟩)) | (go_at_call 22; (with_reducible refine (tenorref5_Of.calls kj1 t279 t280 t281 t282 t283 _ A18.out).mono ?_); rintro e w' ⟨rfl, ⟨nd, rfl⟩⟩; (try first | exact ⟨rfl, _, World.drewN_drewN _ _ _⟩ | exact ⟨rfl, _, Eq.trans (World.drewN_drewN _ _ _) (congrArg (World.drewN _) (Nat.add_assoc _ _ _))⟩))); try go_wp2_with (first | (go_at_call 35; (with_reducible refine (tenorref5_number.calls kj1 (a0.extract 0 4) t279 _ A12.out).mono ?_); rintro e w' ⟨rfl, ⟨nd, rfl⟩⟩; (try first | exact ⟨rfl, _, World.drewN_drewN _ _ _⟩ | exact ⟨rfl, _, Eq.trans (World.drewN_drewN _ _ _) (congrArg (World.drewN _) (Nat.add_assoc _ _ _))⟩)) | (go_at_call 35; (with_reducible refine (tenorref5_number.calls kj1 (a0.extract 5 7) t280 _ A15.out).mono ?_); rintro e w' ⟨rfl, ⟨nd, rfl⟩⟩; (try first | exact ⟨rfl, _, World.drewN_drewN _ _ _⟩ | exact ⟨rfl, _, Eq.trans (World.drewN_drewN _ _ _) (congrArg (World.drewN _) (Nat.add_assoc _ _ _))⟩)) | (go_at_call 35; (with_reducible refine (tenorref5_number.calls kj1 (a0.extract 8 a0.size) t281 _ A17.out).mono ?_); rintro e w' ⟨rfl, ⟨nd, rfl⟩⟩; (try first | exact ⟨rfl, _, World.drewN_drewN _ _ _⟩ | exact ⟨rfl, _, Eq.trans (World.drewN_drewN _ _ _) (congrArg (World.drewN _) (Nat.add_assoc _ _ _))⟩)) | (go_at_call 22; (with_reducible refine (tenorref5_Of.calls kj1 t279 t280 t281 t282 t283 _ A18.out).mono ?_); rintro e w' ⟨rfl, ⟨nd, rfl⟩⟩; (try first | exact ⟨rfl, _, World.drewN_drewN _ _ _⟩ | exact ⟨rfl, _, Eq.trans (World.drewN_drewN _ _ _) (congrArg (World.drewN _) (Nat.add_assoc _ _ _))⟩))))
         go_ret2
         exact ⟨by first | rfl | (simp; done) | (simp [*]; done), by repeat (first | exact Drawn0.refl _ | apply Drawn0.step)⟩
        ·
         rw [if_neg c16] at H
         exact absurd H (by simp)
       ·
        rw [if_neg c14] at H
        exact absurd H (by simp)
      ·
       rw [if_neg c13] at H
       exact absurd H (by simp)
     ·
      rw [if_neg c11] at H
      exact absurd H (by simp)
    ·
     rw [if_neg c10] at H
     exact absurd H (by simp)
-- NOT PRINTED: function 39 (date_two)
-- NOT PRINTED: function 17 (date_Print)
end Go.Proofs.YtoncignjcgjhhaaDoor.Q
