/- Contracts of functions of the seat's program: each Go function's Lean function and its walk, written by a program of this session over the kit's print. Not trusted: Lean checks it. -/
import Derived.Test.YtoncignjcgjhhaaTGA
import Derived.Test.YtoncignjcgjhhaaTQx18
import Derived.Test.YtoncignjcgjhhaaTQx19
set_option linter.unusedVariables false
set_option linter.unusedSimpArgs false
namespace Go.Proofs.Ytoncignjcgjhhaa.Q
open Go.RowKit Go.Proofs.YtoncignjcgjhhaaW.PrintWords Go.Proofs.YtoncignjcgjhhaaW.PrintLast Go.Proofs.YtoncignjcgjhhaaW.PrintMore
attribute [local go_sem] max2_int min2_int max_two min_two max_three min_three max_four min_four   -- for this text's walks alone
def tenorref5_Length.f (k : Nat) (a0 : Int) (a1 : Int) : Option (Int × Int) := if a0 < 1900 then (some (0, 50)) else (if a0 > 2199 then (some (0, 50)) else (if a1 < 1 then (some (0, 50)) else (if a1 > 12 then (some (0, 50)) else ((tenorref5_length.f k a0 a1).bind fun t194 => (some (t194, 0))))))
theorem tenorref5_Length.mono : ∀ a0 a1 k, LeO (tenorref5_Length.f k a0 a1) (tenorref5_Length.f (k + 1) a0 a1) := by
 intro a0 a1 k
 unfold tenorref5_Length.f
 repeat' first
   | (with_reducible exact tenorref5_length.mono _ _ _)
   | (with_reducible exact LeO.refl _)
   | (with_reducible exact LeO.none _)
   | (with_reducible refine LeO.ite ?_ ?_)
   | (with_reducible refine LeO.bind ?_ (fun _ => ?_))
   | exact tenorref5_length.mono _ _ _
   | exact LeO.none _
   | refine LeO.ite ?_ ?_
   | refine LeO.bind ?_ (fun _ => ?_)
set_option maxHeartbeats 8000000 in
set_option maxRecDepth 100000 in
theorem tenorref5_Length.calls (k : Nat) (a0 : Int) (a1 : Int) (r1 : Int) (r2 : Int) (w : World) (h : tenorref5_Length.f k a0 a1 = some (r1, r2)) :
  Calls Try.prog 117 #[.int .i64 a0, .int .i64 a1] w fun e w' => e = .returned (.tuple #[.int .i64 r1, .int .i64 r2]) ∧ Drawn0 w w' := by
 have H : (if a0 < 1900 then (some (0, 50)) else (if a0 > 2199 then (some (0, 50)) else (if a1 < 1 then (some (0, 50)) else (if a1 > 12 then (some (0, 50)) else ((tenorref5_length.f k a0 a1).bind fun t194 => (some (t194, 0))))))) = some (r1, r2) := h
 clear h
 by_cases c3 : a0 < 1900
 ·
  rw [if_pos c3] at H
  have c3b0 : decide (a0 < 1900) = true := decide_eq_true c3
  clear c3
  simp only [Option.some.injEq, Prod.mk.injEq] at H
  obtain ⟨rfl, rfl⟩ := H
  go_enter Try.func117, Try.ntmps117
  go_wp2
  go_ret2
  exact ⟨by first | rfl | (simp; done) | (simp [*]; done), by repeat (first | exact Drawn0.refl _ | apply Drawn0.step)⟩
 ·
  rw [if_neg c3] at H
  have c3b0 : decide (a0 < 1900) = false := decide_eq_false c3
  clear c3
  by_cases c4 : a0 > 2199
  ·
   rw [if_pos c4] at H
   have c4b0 : decide (2199 < a0) = true := decide_eq_true c4
   clear c4
   simp only [Option.some.injEq, Prod.mk.injEq] at H
   obtain ⟨rfl, rfl⟩ := H
   go_enter Try.func117, Try.ntmps117
   go_wp2
   go_ret2
   exact ⟨by first | rfl | (simp; done) | (simp [*]; done), by repeat (first | exact Drawn0.refl _ | apply Drawn0.step)⟩
  ·
   rw [if_neg c4] at H
   have c4b0 : decide (2199 < a0) = false := decide_eq_false c4
   clear c4
   by_cases c5 : a1 < 1
   ·
    rw [if_pos c5] at H
    have c5b0 : decide (a1 < 1) = true := decide_eq_true c5
    clear c5
    simp only [Option.some.injEq, Prod.mk.injEq] at H
    obtain ⟨rfl, rfl⟩ := H
    go_enter Try.func117, Try.ntmps117
    go_wp2
    go_ret2
    exact ⟨by first | rfl | (simp; done) | (simp [*]; done), by repeat (first | exact Drawn0.refl _ | apply Drawn0.step)⟩
   ·
    rw [if_neg c5] at H
    have c5b0 : decide (a1 < 1) = false := decide_eq_false c5
    clear c5
    by_cases c6 : a1 > 12
    ·
     rw [if_pos c6] at H
     have c6b0 : decide (12 < a1) = true := decide_eq_true c6
     clear c6
     simp only [Option.some.injEq, Prod.mk.injEq] at H
     obtain ⟨rfl, rfl⟩ := H
     go_enter Try.func117, Try.ntmps117
     go_wp2
     go_ret2
     exact ⟨by first | rfl | (simp; done) | (simp [*]; done), by repeat (first | exact Drawn0.refl _ | apply Drawn0.step)⟩
    ·
     rw [if_neg c6] at H
     have c6b0 : decide (12 < a1) = false := decide_eq_false c6
     clear c6;replace H := Option.bind_eq_some_iff.mp H
     obtain ⟨t194, A70, H⟩ := H
     replace H : (some (t194, 0)) = some (r1, r2) := H
     have A7 := Aside0.mk A70;clear A70
     simp only [Option.some.injEq, Prod.mk.injEq] at H
     obtain ⟨rfl, rfl⟩ := H
     go_enter Try.func117, Try.ntmps117
     go_wp2_with (first | ((with_reducible refine gate_callee (f := 124) rfl ?_); refine goesL_ (some 22) rfl rfl Try.func124 (by kernel_rfl) rfl #[.int .i64 a0, .int .i64 a1] rfl (by (try simp only [List.map_toArray, List.map_cons, List.map_nil]); first | done | rfl | (simp only [List.length_drop, List.length_take]; rfl)) ?_; (with_reducible refine (tenorref5_length.calls k a0 a1 t194 _ A7.out).mono ?_); rintro e w' ⟨rfl, ⟨nd, rfl⟩⟩; refine ⟨_, rfl, ?_⟩))
     go_ret2
     exact ⟨by first | rfl | (simp; done) | (simp [*]; done), by repeat (first | exact Drawn0.refl _ | apply Drawn0.step)⟩
mutual
def tenorref5_Of.j0 : Nat → Int → Int → Int → Bool → Option (Int × Int)
  | 0, _, _, _, _ => none
  | k + 1, x0, x1, x2, x29 => if x29 = true then (some (0, 50)) else (tenorref5_Of.l0 k x0 x1 (wrap64 (x2 - 1)) 1900)
def tenorref5_Of.l0 : Nat → Int → Int → Int → Int → Option (Int × Int)
  | 0, _, _, _, _ => none
  | k + 1, x0, x1, x10, x11 => if x11 < x0 then ((tenorref5_Leap.f x11).bind fun t197 => (if t197 = true then (tenorref5_Of.l0 k x0 x1 (wrap64 ((wrap64 (x10 + 365)) + 1)) (wrap64 (x11 + 1))) else (tenorref5_Of.l0 k x0 x1 (wrap64 (x10 + 365)) (wrap64 (x11 + 1))))) else (tenorref5_Of.l1 k x0 x1 x10 1)
def tenorref5_Of.l1 : Nat → Int → Int → Int → Int → Option (Int × Int)
  | 0, _, _, _, _ => none
  | k + 1, x0, x1, x10, x12 => if x12 < x1 then ((tenorref5_length.f k x0 x12).bind fun t198 => (tenorref5_Of.l1 k x0 x1 (wrap64 (x10 + t198)) (wrap64 (x12 + 1)))) else (some (x10, 0))
end
def tenorref5_Of.f (k : Nat) (a0 : Int) (a1 : Int) (a2 : Int) : Option (Int × Int) := (tenorref5_Length.f k a0 a1).bind fun bt195 => (if bt195.2 = 0 then (if a2 < 1 then (tenorref5_Of.j0 k a0 a1 a2 true) else (tenorref5_Of.j0 k a0 a1 a2 (decide (a2 > bt195.1)))) else (tenorref5_Of.j0 k a0 a1 a2 true))
theorem tenorref5_Of.mono_l : ∀ k, (∀ y0 y1 y2 y3, LeO (tenorref5_Of.j0 k y0 y1 y2 y3) (tenorref5_Of.j0 (k + 1) y0 y1 y2 y3)) ∧ (∀ y0 y1 y2 y3, LeO (tenorref5_Of.l0 k y0 y1 y2 y3) (tenorref5_Of.l0 (k + 1) y0 y1 y2 y3)) ∧ (∀ y0 y1 y2 y3, LeO (tenorref5_Of.l1 k y0 y1 y2 y3) (tenorref5_Of.l1 (k + 1) y0 y1 y2 y3))
 | 0 => ⟨fun _ _ _ _ r h => by simp [tenorref5_Of.j0] at h, fun _ _ _ _ r h => by simp [tenorref5_Of.l0] at h, fun _ _ _ _ r h => by simp [tenorref5_Of.l1] at h⟩
 | k + 1 => by
  obtain ⟨ih0, ih1, ih2⟩ := tenorref5_Of.mono_l k
  refine ⟨?_, ?_, ?_⟩
  ·
   intro y0 y1 y2 y3
   unfold tenorref5_Of.j0
   repeat' first
   | (with_reducible exact ih0 _ _ _ _)
   | (with_reducible exact ih1 _ _ _ _)
   | (with_reducible exact ih2 _ _ _ _)
   | (with_reducible exact tenorref5_Length.mono _ _ _)
   | (with_reducible exact tenorref5_length.mono _ _ _)
   | (with_reducible exact LeO.refl _)
   | (with_reducible exact LeO.none _)
   | (with_reducible refine LeO.ite ?_ ?_)
   | (with_reducible refine LeO.bind ?_ (fun _ => ?_))
   | exact ih0 _ _ _ _
   | exact ih1 _ _ _ _
   | exact ih2 _ _ _ _
   | exact tenorref5_Length.mono _ _ _
   | exact tenorref5_length.mono _ _ _
   | exact LeO.none _
   | refine LeO.ite ?_ ?_
   | refine LeO.bind ?_ (fun _ => ?_)
  ·
   intro y0 y1 y2 y3
   unfold tenorref5_Of.l0
   repeat' first
   | (with_reducible exact ih0 _ _ _ _)
   | (with_reducible exact ih1 _ _ _ _)
   | (with_reducible exact ih2 _ _ _ _)
   | (with_reducible exact tenorref5_Length.mono _ _ _)
   | (with_reducible exact tenorref5_length.mono _ _ _)
   | (with_reducible exact LeO.refl _)
   | (with_reducible exact LeO.none _)
   | (with_reducible refine LeO.ite ?_ ?_)
   | (with_reducible refine LeO.bind ?_ (fun _ => ?_))
   | exact ih0 _ _ _ _
   | exact ih1 _ _ _ _
   | exact ih2 _ _ _ _
   | exact tenorref5_Length.mono _ _ _
   | exact tenorref5_length.mono _ _ _
   | exact LeO.none _
   | refine LeO.ite ?_ ?_
   | refine LeO.bind ?_ (fun _ => ?_)
  ·
   intro y0 y1 y2 y3
   unfold tenorref5_Of.l1
   repeat' first
   | (with_reducible exact ih0 _ _ _ _)
   | (with_reducible exact ih1 _ _ _ _)
   | (with_reducible exact ih2 _ _ _ _)
   | (with_reducible exact tenorref5_Length.mono _ _ _)
   | (with_reducible exact tenorref5_length.mono _ _ _)
   | (with_reducible exact LeO.refl _)
   | (with_reducible exact LeO.none _)
   | (with_reducible refine LeO.ite ?_ ?_)
   | (with_reducible refine LeO.bind ?_ (fun _ => ?_))
   | exact ih0 _ _ _ _
   | exact ih1 _ _ _ _
   | exact ih2 _ _ _ _
   | exact tenorref5_Length.mono _ _ _
   | exact tenorref5_length.mono _ _ _
   | exact LeO.none _
   | refine LeO.ite ?_ ?_
   | refine LeO.bind ?_ (fun _ => ?_)
theorem tenorref5_Of.mono : ∀ a0 a1 a2 k, LeO (tenorref5_Of.f k a0 a1 a2) (tenorref5_Of.f (k + 1) a0 a1 a2) := by
 intro a0 a1 a2 k
 obtain ⟨ih0, ih1, ih2⟩ := tenorref5_Of.mono_l k
 unfold tenorref5_Of.f
 repeat' first
   | (with_reducible exact ih0 _ _ _ _)
   | (with_reducible exact ih1 _ _ _ _)
   | (with_reducible exact ih2 _ _ _ _)
   | (with_reducible exact tenorref5_Length.mono _ _ _)
   | (with_reducible exact tenorref5_length.mono _ _ _)
   | (with_reducible exact LeO.refl _)
   | (with_reducible exact LeO.none _)
   | (with_reducible refine LeO.ite ?_ ?_)
   | (with_reducible refine LeO.bind ?_ (fun _ => ?_))
   | exact ih0 _ _ _ _
   | exact ih1 _ _ _ _
   | exact ih2 _ _ _ _
   | exact tenorref5_Length.mono _ _ _
   | exact tenorref5_length.mono _ _ _
   | exact LeO.none _
   | refine LeO.ite ?_ ?_
   | refine LeO.bind ?_ (fun _ => ?_)
set_option maxHeartbeats 8000000 in
set_option maxRecDepth 100000 in
theorem tenorref5_Of.calls (k : Nat) (a0 : Int) (a1 : Int) (a2 : Int) (r1 : Int) (r2 : Int) (w : World) (h : tenorref5_Of.f k a0 a1 a2 = some (r1, r2)) :
  Calls Try.prog 97 #[.int .i64 a0, .int .i64 a1, .int .i64 a2] w fun e w' => e = .returned (.tuple #[.int .i64 r1, .int .i64 r2]) ∧ Drawn0 w w' := by
 have H : ((tenorref5_Length.f k a0 a1).bind fun bt195 => (if bt195.2 = 0 then (if a2 < 1 then (tenorref5_Of.j0 k a0 a1 a2 true) else (tenorref5_Of.j0 k a0 a1 a2 (decide (a2 > bt195.1)))) else (tenorref5_Of.j0 k a0 a1 a2 true))) = some (r1, r2) := h
 clear h;replace H := Option.bind_eq_some_iff.mp H
 obtain ⟨⟨t195, t196⟩, A40, H⟩ := H
 replace H : (if t196 = 0 then (if a2 < 1 then (tenorref5_Of.j0 k a0 a1 a2 true) else (tenorref5_Of.j0 k a0 a1 a2 (decide (a2 > t195)))) else (tenorref5_Of.j0 k a0 a1 a2 true)) = some (r1, r2) := H
 have A4 := Aside0.mk A40;clear A40;have HC5 := Aside0.mk H;clear H
 go_enter Try.func97, Try.ntmps97
 go_upto_region 2 with (first | ((with_reducible refine gate_callee (f := 117) rfl ?_); refine goesL_ (some 16) rfl rfl Try.func117 (by kernel_rfl) rfl #[.int .i64 a0, .int .i64 a1] rfl (by (try simp only [List.map_toArray, List.map_cons, List.map_nil]); first | done | rfl | (simp only [List.length_drop, List.length_take]; rfl)) ?_; (with_reducible refine (tenorref5_Length.calls k a0 a1 t195 t196 _ A4.out).mono ?_); rintro e w' ⟨rfl, ⟨nd, rfl⟩⟩; refine ⟨_, rfl, ?_⟩))
 (try simp only [Act.put, List.setIfInBounds_toArray, List.set_cons_zero, List.set_cons_succ])
 go_cut [29] (fun v29 wc => ∃ (kq : Nat) (x29_4 : Bool), v29 = .bool x29_4 ∧ Aside0 (tenorref5_Of.j0 kq a0 a1 a2 x29_4 = some (r1, r2)) ∧ Aside0 (kq ≤ k) ∧ Drawn0 w wc)
 case first =>
  have H := HC5.out;clear HC5
  by_cases c6 : t196 = 0
  ·
   rw [if_pos c6] at H
   have c6b0 : (t196 == 0) = true := beq_iff_eq.mpr c6
   have c6b1 : (t196 != 0) = false := bne_eq_false_iff_eq.mpr c6
   clear c6
   (first | rw [c6b0] | (simp only [i64_w, i32_w]; rw [c6b0]) | skip)
   by_cases c7 : a2 < 1
   ·
    rw [if_pos c7] at H
    have c7b0 : decide (a2 < 1) = true := decide_eq_true c7
    clear c7;have H' := Aside0.mk H;clear H
    go_wp2
    go_meet
    case rel => exact ⟨_, (true), (by first | rfl | (simp; done) | (simp [*]; done)), H', ⟨by first | omega | exact Nat.le_refl _⟩, by repeat (first | exact Drawn0.refl _ | apply Drawn0.step)⟩
   ·
    rw [if_neg c7] at H
    have c7b0 : decide (a2 < 1) = false := decide_eq_false c7
    clear c7;have H' := Aside0.mk H;clear H
    go_wp2
    go_meet
    case rel => exact ⟨_, (decide (a2 > t195)), (by first | rfl | (simp; done) | (simp [*]; done)), H', ⟨by first | omega | exact Nat.le_refl _⟩, by repeat (first | exact Drawn0.refl _ | apply Drawn0.step)⟩
  ·
   rw [if_neg c6] at H
   have c6b0 : (t196 == 0) = false := beq_eq_false_iff_ne.mpr c6
   have c6b1 : (t196 != 0) = true := bne_iff_ne.mpr c6
   (first | rw [c6b0] | (simp only [i64_w, i32_w]; rw [c6b0]) | skip)
   have H' := Aside0.mk H;clear H
   go_wp2
   go_meet
   case rel => exact ⟨_, (true), (by first | rfl | (simp; done) | (simp [*]; done)), H', ⟨by first | omega | exact Nat.le_refl _⟩, by repeat (first | exact Drawn0.refl _ | apply Drawn0.step)⟩
 case rest =>
  clear HC5
  obtain ⟨kq, x29_4, rfl, HA, HJ4, ⟨mc4, rfl⟩⟩ := hcut
  cases kq with
  | zero => exact absurd HA.out (by simp [tenorref5_Of.j0])
  | succ kj4 =>
   have H := HA.out;clear HA
   simp only [tenorref5_Of.j0] at H
   by_cases c8 : x29_4 = true
   ·
    subst c8
    have H1 : (some (0, 50)) = some (r1, r2) := by rw [if_pos rfl] at H; exact H
    clear H;have H := H1;clear H1
    simp only [Option.some.injEq, Prod.mk.injEq] at H
    obtain ⟨rfl, rfl⟩ := H
    go_wp2
    go_ret2
    exact ⟨by first | rfl | (simp; done) | (simp [*]; done), by repeat (first | exact Drawn0.refl _ | apply Drawn0.step)⟩
   ·
    replace c8 := Bool.eq_false_iff.mpr c8;subst c8
    have H1 : (tenorref5_Of.l0 kj4 a0 a1 (wrap64 (a2 - 1)) 1900) = some (r1, r2) := by rw [if_neg (show ¬ (false = true) by decide)] at H; exact H
    clear H;have H := H1;clear H1;have H' := Aside0.mk H;clear H
    go_wp2
    go_loopg [10, 11] kj4 (fun kq v10 v11 w' => ∃ (x10_2 : Int) (x11_2 : Int), v10 = .int .i64 x10_2 ∧ v11 = .int .i64 x11_2 ∧ Aside0 (tenorref5_Of.l0 kq a0 a1 x10_2 x11_2 = some (r1, r2)) ∧ Aside0 (kq ≤ kj4) ∧ Drawn0 w w')
    case atStart => exact ⟨(wrap64 (a2 - 1)), (1900), (by first | rfl | (simp; done) | (simp [*]; done)), (by first | rfl | (simp; done) | (simp [*]; done)), H', ⟨Nat.le_refl _⟩, by repeat (first | exact Drawn0.refl _ | apply Drawn0.step)⟩
    case round =>
     clear H'
     obtain ⟨x10_2, x11_2, rfl, rfl, HA, HK2, ⟨m2, rfl⟩⟩ := hrel
     cases gk with
     | zero => exact absurd HA.out (by simp [tenorref5_Of.l0])
     | succ k2 =>
      have H := HA.out;clear HA
      simp only [tenorref5_Of.l0] at H
      by_cases c9 : x11_2 < a0
      ·
       rw [if_pos c9] at H
       have c9b0 : decide (x11_2 < a0) = true := decide_eq_true c9
       clear c9;replace H := Option.bind_eq_some_iff.mp H
       obtain ⟨t197, A100, H⟩ := H
       replace H : (if t197 = true then (tenorref5_Of.l0 k2 a0 a1 (wrap64 ((wrap64 (x10_2 + 365)) + 1)) (wrap64 (x11_2 + 1))) else (tenorref5_Of.l0 k2 a0 a1 (wrap64 (x10_2 + 365)) (wrap64 (x11_2 + 1)))) = some (r1, r2) := H
       have A10 := Aside0.mk A100;clear A100
       by_cases c11 : t197 = true
       ·
        subst c11
        have H1 : (tenorref5_Of.l0 k2 a0 a1 (wrap64 ((wrap64 (x10_2 + 365)) + 1)) (wrap64 (x11_2 + 1))) = some (r1, r2) := by rw [if_pos rfl] at H; exact H
        clear H;have H := H1;clear H1;have H' := Aside0.mk H;clear H
        go_wp2_with (first | ((with_reducible refine gate_callee (f := 98) rfl ?_); refine goesL_ (some 40) rfl rfl Try.func98 (by kernel_rfl) rfl #[.int .i64 x11_2] rfl (by (try simp only [List.map_toArray, List.map_cons, List.map_nil]); first | done | rfl | (simp only [List.length_drop, List.length_take]; rfl)) ?_; (with_reducible refine (tenorref5_Leap.calls x11_2 true _ A10.out).mono ?_); rintro e w' ⟨rfl, ⟨nd, rfl⟩⟩; refine ⟨_, rfl, ?_⟩))
        go_roundg k2
        case measure => have := HJ4.out; have := HK2.out; omega
        case rel => exact ⟨(wrap64 ((wrap64 (x10_2 + 365)) + 1)), (wrap64 (x11_2 + 1)), (by first | rfl | (simp; done) | (simp [*]; done)), (by first | rfl | (simp; done) | (simp [*]; done)), H', ⟨by have := HJ4.out; have := HK2.out; omega⟩, by repeat (first | exact Drawn0.refl _ | apply Drawn0.step)⟩
       ·
        replace c11 := Bool.eq_false_iff.mpr c11;subst c11
        have H1 : (tenorref5_Of.l0 k2 a0 a1 (wrap64 (x10_2 + 365)) (wrap64 (x11_2 + 1))) = some (r1, r2) := by rw [if_neg (show ¬ (false = true) by decide)] at H; exact H
        clear H;have H := H1;clear H1;have H' := Aside0.mk H;clear H
        go_wp2_with (first | ((with_reducible refine gate_callee (f := 98) rfl ?_); refine goesL_ (some 40) rfl rfl Try.func98 (by kernel_rfl) rfl #[.int .i64 x11_2] rfl (by (try simp only [List.map_toArray, List.map_cons, List.map_nil]); first | done | rfl | (simp only [List.length_drop, List.length_take]; rfl)) ?_; (with_reducible refine (tenorref5_Leap.calls x11_2 false _ A10.out).mono ?_); rintro e w' ⟨rfl, ⟨nd, rfl⟩⟩; refine ⟨_, rfl, ?_⟩))
        go_roundg k2
        case measure => have := HJ4.out; have := HK2.out; omega
        case rel => exact ⟨(wrap64 (x10_2 + 365)), (wrap64 (x11_2 + 1)), (by first | rfl | (simp; done) | (simp [*]; done)), (by first | rfl | (simp; done) | (simp [*]; done)), H', ⟨by have := HJ4.out; have := HK2.out; omega⟩, by repeat (first | exact Drawn0.refl _ | apply Drawn0.step)⟩
      ·
       rw [if_neg c9] at H
       have c9b0 : decide (x11_2 < a0) = false := decide_eq_false c9
       clear c9;have H' := Aside0.mk H;clear H
       go_wp2
       go_loopg [10, 12] k2 (fun kq v10 v12 w' => ∃ (x10_3 : Int) (x12_3 : Int), v10 = .int .i64 x10_3 ∧ v12 = .int .i64 x12_3 ∧ Aside0 (tenorref5_Of.l1 kq a0 a1 x10_3 x12_3 = some (r1, r2)) ∧ Aside0 (kq ≤ k2) ∧ Drawn0 w w')
       case atStart => exact ⟨(x10_2), (1), (by first | rfl | (simp; done) | (simp [*]; done)), (by first | rfl | (simp; done) | (simp [*]; done)), H', ⟨Nat.le_refl _⟩, by repeat (first | exact Drawn0.refl _ | apply Drawn0.step)⟩
       case round =>
        clear H'
        obtain ⟨x10_3, x12_3, rfl, rfl, HA, HK3, ⟨m3, rfl⟩⟩ := hrel
        cases gk with
        | zero => exact absurd HA.out (by simp [tenorref5_Of.l1])
        | succ k3 =>
         have H := HA.out;clear HA
         simp only [tenorref5_Of.l1] at H
         by_cases c12 : x12_3 < a1
         ·
          rw [if_pos c12] at H
          have c12b0 : decide (x12_3 < a1) = true := decide_eq_true c12
          clear c12;replace H := Option.bind_eq_some_iff.mp H
          obtain ⟨t198, A130, H⟩ := H
          replace H : (tenorref5_Of.l1 k3 a0 a1 (wrap64 (x10_3 + t198)) (wrap64 (x12_3 + 1))) = some (r1, r2) := H
          have A13 := Aside0.mk A130;clear A130;have H' := Aside0.mk H;clear H
          go_wp2_with (first | ((with_reducible refine gate_callee (f := 124) rfl ?_); refine goesL_ (some 51) rfl rfl Try.func124 (by kernel_rfl) rfl #[.int .i64 a0, .int .i64 x12_3] rfl (by (try simp only [List.map_toArray, List.map_cons, List.map_nil]); first | done | rfl | (simp only [List.length_drop, List.length_take]; rfl)) ?_; (with_reducible refine (tenorref5_length.calls k3 a0 x12_3 t198 _ A13.out).mono ?_); rintro e w' ⟨rfl, ⟨nd, rfl⟩⟩; refine ⟨_, rfl, ?_⟩))
          go_roundg k3
          case measure => have := HJ4.out; have := HK2.out; have := HK3.out; omega
          case rel => exact ⟨(wrap64 (x10_3 + t198)), (wrap64 (x12_3 + 1)), (by first | rfl | (simp; done) | (simp [*]; done)), (by first | rfl | (simp; done) | (simp [*]; done)), H', ⟨by have := HJ4.out; have := HK2.out; have := HK3.out; omega⟩, by repeat (first | exact Drawn0.refl _ | apply Drawn0.step)⟩
         ·
          rw [if_neg c12] at H
          have c12b0 : decide (x12_3 < a1) = false := decide_eq_false c12
          clear c12
          simp only [Option.some.injEq, Prod.mk.injEq] at H
          obtain ⟨rfl, rfl⟩ := H
          go_wp2
          go_ret2
          exact ⟨by first | rfl | (simp; done) | (simp [*]; done), by repeat (first | exact Drawn0.refl _ | apply Drawn0.step)⟩
end Go.Proofs.Ytoncignjcgjhhaa.Q
