/- Contracts and facts of functions of the program (calendar, dates and their documents), joined in one text by a program of this session. No condition but what each theorem states. -/
import Derived.Test.YtoncignjcgjhhaaZGA
import Derived.Test.YtoncignjcgjhhaaZGG
import Derived.Test.YtoncignjcgjhhaaZGD
import Derived.Test.YtoncignjcgjhhaaZGE
set_option linter.unusedVariables false
set_option linter.unusedSimpArgs false
namespace Go.Proofs.Ytoncignjcgjhhaa.Q
open Go.RowKit Go.Proofs.YtoncignjcgjhhaaW.PrintWords Go.Proofs.YtoncignjcgjhhaaW.PrintLast Go.Proofs.YtoncignjcgjhhaaW.PrintMore
attribute [local go_sem] max2_int min2_int max_two min_two max_three min_three max_four min_four   -- for this text's walks alone
set_option linter.unusedVariables false
set_option linter.unusedSimpArgs false

/-! ### tenorref5_Length: function 117 -/
def tenorref5_Length.f (k : Nat) (a0 : Int) (a1 : Int) : Option (Int × Int) := if a0 < 1900 then (some (0, 50)) else (if a0 > 2199 then (some (0, 50)) else (if a1 < 1 then (some (0, 50)) else (if a1 > 12 then (some (0, 50)) else ((tenorref5_length.f k a0 a1).bind fun t194 => (some (t194, 0))))))
theorem tenorref5_Length.mono : ∀ a0 a1 k, LeO (tenorref5_Length.f k a0 a1) (tenorref5_Length.f (k + 1) a0 a1) := by
  intro a0 a1 k
  unfold tenorref5_Length.f
  repeat' first
      | (with_reducible exact tenorref5_length.mono _ _ _)
      | (with_reducible exact LeO.refl _)
      | (with_reducible exact LeO.none _)
      | (with_reducible refine LeO.ite ?_ ?_)
      | (with_reducible refine LeO.bind ?_ (fun _ => ?_))
      | exact tenorref5_length.mono _ _ _
      | exact LeO.none _
      | refine LeO.ite ?_ ?_
      | refine LeO.bind ?_ (fun _ => ?_)
set_option maxHeartbeats 8000000 in
set_option maxRecDepth 100000 in
theorem tenorref5_Length.calls (k : Nat) (a0 : Int) (a1 : Int) (r1 : Int) (r2 : Int) (w : World) (h : tenorref5_Length.f k a0 a1 = some (r1, r2)) :
    Calls Try.prog 117 #[.int .i64 a0, .int .i64 a1] w fun e w' => e = .returned (.tuple #[.int .i64 r1, .int .i64 r2]) ∧ Drawn0 w w' := by
  have H : (if a0 < 1900 then (some (0, 50)) else (if a0 > 2199 then (some (0, 50)) else (if a1 < 1 then (some (0, 50)) else (if a1 > 12 then (some (0, 50)) else ((tenorref5_length.f k a0 a1).bind fun t194 => (some (t194, 0))))))) = some (r1, r2) := h
  clear h
  by_cases c3 : a0 < 1900
  · rw [if_pos c3] at H
    have c3b0 : decide (a0 < 1900) = true := decide_eq_true c3
    clear c3
    simp only [Option.some.injEq, Prod.mk.injEq] at H
    obtain ⟨rfl, rfl⟩ := H
    go_enter Try.func117, Try.ntmps117
    go_wp2
    go_ret2
    exact ⟨by first | rfl | (simp; done) | (simp [*]; done), by repeat (first | exact Drawn0.refl _ | apply Drawn0.step)⟩
  · rw [if_neg c3] at H
    have c3b0 : decide (a0 < 1900) = false := decide_eq_false c3
    clear c3
    by_cases c4 : a0 > 2199
    · rw [if_pos c4] at H
      have c4b0 : decide (2199 < a0) = true := decide_eq_true c4
      clear c4
      simp only [Option.some.injEq, Prod.mk.injEq] at H
      obtain ⟨rfl, rfl⟩ := H
      go_enter Try.func117, Try.ntmps117
      go_wp2
      go_ret2
      exact ⟨by first | rfl | (simp; done) | (simp [*]; done), by repeat (first | exact Drawn0.refl _ | apply Drawn0.step)⟩
    · rw [if_neg c4] at H
      have c4b0 : decide (2199 < a0) = false := decide_eq_false c4
      clear c4
      by_cases c5 : a1 < 1
      · rw [if_pos c5] at H
        have c5b0 : decide (a1 < 1) = true := decide_eq_true c5
        clear c5
        simp only [Option.some.injEq, Prod.mk.injEq] at H
        obtain ⟨rfl, rfl⟩ := H
        go_enter Try.func117, Try.ntmps117
        go_wp2
        go_ret2
        exact ⟨by first | rfl | (simp; done) | (simp [*]; done), by repeat (first | exact Drawn0.refl _ | apply Drawn0.step)⟩
      · rw [if_neg c5] at H
        have c5b0 : decide (a1 < 1) = false := decide_eq_false c5
        clear c5
        by_cases c6 : a1 > 12
        · rw [if_pos c6] at H
          have c6b0 : decide (12 < a1) = true := decide_eq_true c6
          clear c6
          simp only [Option.some.injEq, Prod.mk.injEq] at H
          obtain ⟨rfl, rfl⟩ := H
          go_enter Try.func117, Try.ntmps117
          go_wp2
          go_ret2
          exact ⟨by first | rfl | (simp; done) | (simp [*]; done), by repeat (first | exact Drawn0.refl _ | apply Drawn0.step)⟩
        · rw [if_neg c6] at H
          have c6b0 : decide (12 < a1) = false := decide_eq_false c6
          clear c6
          replace H := Option.bind_eq_some_iff.mp H
          obtain ⟨t194, A70, H⟩ := H
          replace H : (some (t194, 0)) = some (r1, r2) := H
          have A7 := Aside0.mk A70
          clear A70
          simp only [Option.some.injEq, Prod.mk.injEq] at H
          obtain ⟨rfl, rfl⟩ := H
          go_enter Try.func117, Try.ntmps117
          go_wp2_with (first | ((with_reducible refine gate_callee (f := 124) rfl ?_); refine goesL_ (some 22) rfl rfl Try.func124 (by kernel_rfl) rfl #[.int .i64 a0, .int .i64 a1] rfl (by (try simp only [List.map_toArray, List.map_cons, List.map_nil]); first | done | rfl | (simp only [List.length_drop, List.length_take]; rfl)) ?_; (with_reducible refine (tenorref5_length.calls k a0 a1 t194 _ A7.out).mono ?_); rintro e w' ⟨rfl, ⟨nd, rfl⟩⟩; refine ⟨_, rfl, ?_⟩))
          go_ret2
          exact ⟨by first | rfl | (simp; done) | (simp [*]; done), by repeat (first | exact Drawn0.refl _ | apply Drawn0.step)⟩

/-! ### tenorref5_Of: function 97 -/
mutual
def tenorref5_Of.j0 : Nat → Int → Int → Int → Bool → Option (Int × Int)
  | 0, _, _, _, _ => none
  | k + 1, x0, x1, x2, x29 => if x29 = true then (some (0, 50)) else (tenorref5_Of.l0 k x0 x1 (wrap64 (x2 - 1)) 1900)
def tenorref5_Of.l0 : Nat → Int → Int → Int → Int → Option (Int × Int)
  | 0, _, _, _, _ => none
  | k + 1, x0, x1, x10, x11 => if x11 < x0 then ((tenorref5_Leap.f x11).bind fun t197 => (if t197 = true then (tenorref5_Of.l0 k x0 x1 (wrap64 ((wrap64 (x10 + 365)) + 1)) (wrap64 (x11 + 1))) else (tenorref5_Of.l0 k x0 x1 (wrap64 (x10 + 365)) (wrap64 (x11 + 1))))) else (tenorref5_Of.l1 k x0 x1 x10 1)
def tenorref5_Of.l1 : Nat → Int → Int → Int → Int → Option (Int × Int)
  | 0, _, _, _, _ => none
  | k + 1, x0, x1, x10, x12 => if x12 < x1 then ((tenorref5_length.f k x0 x12).bind fun t198 => (tenorref5_Of.l1 k x0 x1 (wrap64 (x10 + t198)) (wrap64 (x12 + 1)))) else (some (x10, 0))
end
def tenorref5_Of.f (k : Nat) (a0 : Int) (a1 : Int) (a2 : Int) : Option (Int × Int) := (tenorref5_Length.f k a0 a1).bind fun bt195 => (if bt195.2 = 0 then (if a2 < 1 then (tenorref5_Of.j0 k a0 a1 a2 true) else (tenorref5_Of.j0 k a0 a1 a2 (decide (a2 > bt195.1)))) else (tenorref5_Of.j0 k a0 a1 a2 true))
theorem tenorref5_Of.mono_l : ∀ k, (∀ y0 y1 y2 y3, LeO (tenorref5_Of.j0 k y0 y1 y2 y3) (tenorref5_Of.j0 (k + 1) y0 y1 y2 y3)) ∧ (∀ y0 y1 y2 y3, LeO (tenorref5_Of.l0 k y0 y1 y2 y3) (tenorref5_Of.l0 (k + 1) y0 y1 y2 y3)) ∧ (∀ y0 y1 y2 y3, LeO (tenorref5_Of.l1 k y0 y1 y2 y3) (tenorref5_Of.l1 (k + 1) y0 y1 y2 y3))
  | 0 => ⟨fun _ _ _ _ r h => by simp [tenorref5_Of.j0] at h, fun _ _ _ _ r h => by simp [tenorref5_Of.l0] at h, fun _ _ _ _ r h => by simp [tenorref5_Of.l1] at h⟩
  | k + 1 => by
    obtain ⟨ih0, ih1, ih2⟩ := tenorref5_Of.mono_l k
    refine ⟨?_, ?_, ?_⟩
    · intro y0 y1 y2 y3
      unfold tenorref5_Of.j0
      repeat' first
      | (with_reducible exact ih0 _ _ _ _)
      | (with_reducible exact ih1 _ _ _ _)
      | (with_reducible exact ih2 _ _ _ _)
      | (with_reducible exact tenorref5_Length.mono _ _ _)
      | (with_reducible exact tenorref5_length.mono _ _ _)
      | (with_reducible exact LeO.refl _)
      | (with_reducible exact LeO.none _)
      | (with_reducible refine LeO.ite ?_ ?_)
      | (with_reducible refine LeO.bind ?_ (fun _ => ?_))
      | exact ih0 _ _ _ _
      | exact ih1 _ _ _ _
      | exact ih2 _ _ _ _
      | exact tenorref5_Length.mono _ _ _
      | exact tenorref5_length.mono _ _ _
      | exact LeO.none _
      | refine LeO.ite ?_ ?_
      | refine LeO.bind ?_ (fun _ => ?_)
    · intro y0 y1 y2 y3
      unfold tenorref5_Of.l0
      repeat' first
      | (with_reducible exact ih0 _ _ _ _)
      | (with_reducible exact ih1 _ _ _ _)
      | (with_reducible exact ih2 _ _ _ _)
      | (with_reducible exact tenorref5_Length.mono _ _ _)
      | (with_reducible exact tenorref5_length.mono _ _ _)
      | (with_reducible exact LeO.refl _)
      | (with_reducible exact LeO.none _)
      | (with_reducible refine LeO.ite ?_ ?_)
      | (with_reducible refine LeO.bind ?_ (fun _ => ?_))
      | exact ih0 _ _ _ _
      | exact ih1 _ _ _ _
      | exact ih2 _ _ _ _
      | exact tenorref5_Length.mono _ _ _
      | exact tenorref5_length.mono _ _ _
      | exact LeO.none _
      | refine LeO.ite ?_ ?_
      | refine LeO.bind ?_ (fun _ => ?_)
    · intro y0 y1 y2 y3
      unfold tenorref5_Of.l1
      repeat' first
      | (with_reducible exact ih0 _ _ _ _)
      | (with_reducible exact ih1 _ _ _ _)
      | (with_reducible exact ih2 _ _ _ _)
      | (with_reducible exact tenorref5_Length.mono _ _ _)
      | (with_reducible exact tenorref5_length.mono _ _ _)
      | (with_reducible exact LeO.refl _)
      | (with_reducible exact LeO.none _)
      | (with_reducible refine LeO.ite ?_ ?_)
      | (with_reducible refine LeO.bind ?_ (fun _ => ?_))
      | exact ih0 _ _ _ _
      | exact ih1 _ _ _ _
      | exact ih2 _ _ _ _
      | exact tenorref5_Length.mono _ _ _
      | exact tenorref5_length.mono _ _ _
      | exact LeO.none _
      | refine LeO.ite ?_ ?_
      | refine LeO.bind ?_ (fun _ => ?_)
theorem tenorref5_Of.mono : ∀ a0 a1 a2 k, LeO (tenorref5_Of.f k a0 a1 a2) (tenorref5_Of.f (k + 1) a0 a1 a2) := by
  intro a0 a1 a2 k
  obtain ⟨ih0, ih1, ih2⟩ := tenorref5_Of.mono_l k
  unfold tenorref5_Of.f
  repeat' first
      | (with_reducible exact ih0 _ _ _ _)
      | (with_reducible exact ih1 _ _ _ _)
      | (with_reducible exact ih2 _ _ _ _)
      | (with_reducible exact tenorref5_Length.mono _ _ _)
      | (with_reducible exact tenorref5_length.mono _ _ _)
      | (with_reducible exact LeO.refl _)
      | (with_reducible exact LeO.none _)
      | (with_reducible refine LeO.ite ?_ ?_)
      | (with_reducible refine LeO.bind ?_ (fun _ => ?_))
      | exact ih0 _ _ _ _
      | exact ih1 _ _ _ _
      | exact ih2 _ _ _ _
      | exact tenorref5_Length.mono _ _ _
      | exact tenorref5_length.mono _ _ _
      | exact LeO.none _
      | refine LeO.ite ?_ ?_
      | refine LeO.bind ?_ (fun _ => ?_)
set_option maxHeartbeats 8000000 in
set_option maxRecDepth 100000 in
theorem tenorref5_Of.calls (k : Nat) (a0 : Int) (a1 : Int) (a2 : Int) (r1 : Int) (r2 : Int) (w : World) (h : tenorref5_Of.f k a0 a1 a2 = some (r1, r2)) :
    Calls Try.prog 97 #[.int .i64 a0, .int .i64 a1, .int .i64 a2] w fun e w' => e = .returned (.tuple #[.int .i64 r1, .int .i64 r2]) ∧ Drawn0 w w' := by
  have H : ((tenorref5_Length.f k a0 a1).bind fun bt195 => (if bt195.2 = 0 then (if a2 < 1 then (tenorref5_Of.j0 k a0 a1 a2 true) else (tenorref5_Of.j0 k a0 a1 a2 (decide (a2 > bt195.1)))) else (tenorref5_Of.j0 k a0 a1 a2 true))) = some (r1, r2) := h
  clear h
  replace H := Option.bind_eq_some_iff.mp H
  obtain ⟨⟨t195, t196⟩, A40, H⟩ := H
  replace H : (if t196 = 0 then (if a2 < 1 then (tenorref5_Of.j0 k a0 a1 a2 true) else (tenorref5_Of.j0 k a0 a1 a2 (decide (a2 > t195)))) else (tenorref5_Of.j0 k a0 a1 a2 true)) = some (r1, r2) := H
  have A4 := Aside0.mk A40
  clear A40
  have HC5 := Aside0.mk H
  clear H
  go_enter Try.func97, Try.ntmps97
  go_upto_region 2 with (first | ((with_reducible refine gate_callee (f := 117) rfl ?_); refine goesL_ (some 16) rfl rfl Try.func117 (by kernel_rfl) rfl #[.int .i64 a0, .int .i64 a1] rfl (by (try simp only [List.map_toArray, List.map_cons, List.map_nil]); first | done | rfl | (simp only [List.length_drop, List.length_take]; rfl)) ?_; (with_reducible refine (tenorref5_Length.calls k a0 a1 t195 t196 _ A4.out).mono ?_); rintro e w' ⟨rfl, ⟨nd, rfl⟩⟩; refine ⟨_, rfl, ?_⟩))
  (try simp only [Act.put, List.setIfInBounds_toArray, List.set_cons_zero, List.set_cons_succ])
  go_cut [29] (fun v29 wc => ∃ (kq : Nat) (x29_4 : Bool), v29 = .bool x29_4 ∧ Aside0 (tenorref5_Of.j0 kq a0 a1 a2 x29_4 = some (r1, r2)) ∧ Aside0 (kq ≤ k) ∧ Drawn0 w wc)
  case first =>
    have H := HC5.out
    clear HC5
    by_cases c6 : t196 = 0
    · rw [if_pos c6] at H
      have c6b0 : (t196 == 0) = true := beq_iff_eq.mpr c6
      have c6b1 : (t196 != 0) = false := bne_eq_false_iff_eq.mpr c6
      clear c6
      (first | rw [c6b0] | (simp only [i64_w, i32_w]; rw [c6b0]) | skip)
      by_cases c7 : a2 < 1
      · rw [if_pos c7] at H
        have c7b0 : decide (a2 < 1) = true := decide_eq_true c7
        clear c7
        have H' := Aside0.mk H
        clear H
        go_wp2
        go_meet
        case rel => exact ⟨_, (true), (by first | rfl | (simp; done) | (simp [*]; done)), H', ⟨by first | omega | exact Nat.le_refl _⟩, by repeat (first | exact Drawn0.refl _ | apply Drawn0.step)⟩
      · rw [if_neg c7] at H
        have c7b0 : decide (a2 < 1) = false := decide_eq_false c7
        clear c7
        have H' := Aside0.mk H
        clear H
        go_wp2
        go_meet
        case rel => exact ⟨_, (decide (a2 > t195)), (by first | rfl | (simp; done) | (simp [*]; done)), H', ⟨by first | omega | exact Nat.le_refl _⟩, by repeat (first | exact Drawn0.refl _ | apply Drawn0.step)⟩
    · rw [if_neg c6] at H
      have c6b0 : (t196 == 0) = false := beq_eq_false_iff_ne.mpr c6
      have c6b1 : (t196 != 0) = true := bne_iff_ne.mpr c6
      (first | rw [c6b0] | (simp only [i64_w, i32_w]; rw [c6b0]) | skip)
      have H' := Aside0.mk H
      clear H
      go_wp2
      go_meet
      case rel => exact ⟨_, (true), (by first | rfl | (simp; done) | (simp [*]; done)), H', ⟨by first | omega | exact Nat.le_refl _⟩, by repeat (first | exact Drawn0.refl _ | apply Drawn0.step)⟩
  case rest =>
    clear HC5
    try clear c1
    try clear p2
    try clear c6
    try clear c6b0
    try clear c6b1
    try clear c7
    try clear c7b0
    obtain ⟨kq, x29_4, rfl, HA, HJ4, ⟨mc4, rfl⟩⟩ := hcut
    cases kq with
    | zero => exact absurd HA.out (by simp [tenorref5_Of.j0])
    | succ kj4 =>
      have H := HA.out
      clear HA
      simp only [tenorref5_Of.j0] at H
      by_cases c8 : x29_4 = true
      · subst c8
        have H1 : (some (0, 50)) = some (r1, r2) := by rw [if_pos rfl] at H; exact H
        clear H
        have H := H1
        clear H1
        simp only [Option.some.injEq, Prod.mk.injEq] at H
        obtain ⟨rfl, rfl⟩ := H
        go_wp2
        go_ret2
        exact ⟨by first | rfl | (simp; done) | (simp [*]; done), by repeat (first | exact Drawn0.refl _ | apply Drawn0.step)⟩
      · replace c8 := Bool.eq_false_iff.mpr c8
        subst c8
        have H1 : (tenorref5_Of.l0 kj4 a0 a1 (wrap64 (a2 - 1)) 1900) = some (r1, r2) := by rw [if_neg (show ¬ (false = true) by decide)] at H; exact H
        clear H
        have H := H1
        clear H1
        have H' := Aside0.mk H
        clear H
        go_wp2
        go_loopg [10, 11] kj4 (fun kq v10 v11 w' => ∃ (x10_2 : Int) (x11_2 : Int), v10 = .int .i64 x10_2 ∧ v11 = .int .i64 x11_2 ∧ Aside0 (tenorref5_Of.l0 kq a0 a1 x10_2 x11_2 = some (r1, r2)) ∧ Aside0 (kq ≤ kj4) ∧ Drawn0 w w')
        case atStart => exact ⟨(wrap64 (a2 - 1)), (1900), (by first | rfl | (simp; done) | (simp [*]; done)), (by first | rfl | (simp; done) | (simp [*]; done)), H', ⟨Nat.le_refl _⟩, by repeat (first | exact Drawn0.refl _ | apply Drawn0.step)⟩
        case round =>
          clear H'
          try clear c1
          try clear p2
          try clear c4
          try clear c6
          try clear c6b0
          try clear c6b1
          try clear p6
          try clear c7
          try clear c7b0
          try clear c8
          try clear p2
          obtain ⟨x10_2, x11_2, rfl, rfl, HA, HK2, ⟨m2, rfl⟩⟩ := hrel
          cases gk with
          | zero => exact absurd HA.out (by simp [tenorref5_Of.l0])
          | succ k2 =>
            have H := HA.out
            clear HA
            simp only [tenorref5_Of.l0] at H
            by_cases c9 : x11_2 < a0
            · rw [if_pos c9] at H
              have c9b0 : decide (x11_2 < a0) = true := decide_eq_true c9
              clear c9
              replace H := Option.bind_eq_some_iff.mp H
              obtain ⟨t197, A100, H⟩ := H
              replace H : (if t197 = true then (tenorref5_Of.l0 k2 a0 a1 (wrap64 ((wrap64 (x10_2 + 365)) + 1)) (wrap64 (x11_2 + 1))) else (tenorref5_Of.l0 k2 a0 a1 (wrap64 (x10_2 + 365)) (wrap64 (x11_2 + 1)))) = some (r1, r2) := H
              have A10 := Aside0.mk A100
              clear A100
              by_cases c11 : t197 = true
              · subst c11
                have H1 : (tenorref5_Of.l0 k2 a0 a1 (wrap64 ((wrap64 (x10_2 + 365)) + 1)) (wrap64 (x11_2 + 1))) = some (r1, r2) := by rw [if_pos rfl] at H; exact H
                clear H
                have H := H1
                clear H1
                have H' := Aside0.mk H
                clear H
                go_wp2_with (first | ((with_reducible refine gate_callee (f := 98) rfl ?_); refine goesL_ (some 40) rfl rfl Try.func98 (by kernel_rfl) rfl #[.int .i64 x11_2] rfl (by (try simp only [List.map_toArray, List.map_cons, List.map_nil]); first | done | rfl | (simp only [List.length_drop, List.length_take]; rfl)) ?_; (with_reducible refine (tenorref5_Leap.calls x11_2 true _ A10.out).mono ?_); rintro e w' ⟨rfl, ⟨nd, rfl⟩⟩; refine ⟨_, rfl, ?_⟩))
                go_roundg k2
                case measure => have := HJ4.out; have := HK2.out; omega
                case rel => exact ⟨(wrap64 ((wrap64 (x10_2 + 365)) + 1)), (wrap64 (x11_2 + 1)), (by first | rfl | (simp; done) | (simp [*]; done)), (by first | rfl | (simp; done) | (simp [*]; done)), H', ⟨by have := HJ4.out; have := HK2.out; omega⟩, by repeat (first | exact Drawn0.refl _ | apply Drawn0.step)⟩
              · replace c11 := Bool.eq_false_iff.mpr c11
                subst c11
                have H1 : (tenorref5_Of.l0 k2 a0 a1 (wrap64 (x10_2 + 365)) (wrap64 (x11_2 + 1))) = some (r1, r2) := by rw [if_neg (show ¬ (false = true) by decide)] at H; exact H
                clear H
                have H := H1
                clear H1
                have H' := Aside0.mk H
                clear H
                go_wp2_with (first | ((with_reducible refine gate_callee (f := 98) rfl ?_); refine goesL_ (some 40) rfl rfl Try.func98 (by kernel_rfl) rfl #[.int .i64 x11_2] rfl (by (try simp only [List.map_toArray, List.map_cons, List.map_nil]); first | done | rfl | (simp only [List.length_drop, List.length_take]; rfl)) ?_; (with_reducible refine (tenorref5_Leap.calls x11_2 false _ A10.out).mono ?_); rintro e w' ⟨rfl, ⟨nd, rfl⟩⟩; refine ⟨_, rfl, ?_⟩))
                go_roundg k2
                case measure => have := HJ4.out; have := HK2.out; omega
                case rel => exact ⟨(wrap64 (x10_2 + 365)), (wrap64 (x11_2 + 1)), (by first | rfl | (simp; done) | (simp [*]; done)), (by first | rfl | (simp; done) | (simp [*]; done)), H', ⟨by have := HJ4.out; have := HK2.out; omega⟩, by repeat (first | exact Drawn0.refl _ | apply Drawn0.step)⟩
            · rw [if_neg c9] at H
              have c9b0 : decide (x11_2 < a0) = false := decide_eq_false c9
              clear c9
              have H' := Aside0.mk H
              clear H
              go_wp2
              go_loopg [10, 12] k2 (fun kq v10 v12 w' => ∃ (x10_3 : Int) (x12_3 : Int), v10 = .int .i64 x10_3 ∧ v12 = .int .i64 x12_3 ∧ Aside0 (tenorref5_Of.l1 kq a0 a1 x10_3 x12_3 = some (r1, r2)) ∧ Aside0 (kq ≤ k2) ∧ Drawn0 w w')
              case atStart => exact ⟨(x10_2), (1), (by first | rfl | (simp; done) | (simp [*]; done)), (by first | rfl | (simp; done) | (simp [*]; done)), H', ⟨Nat.le_refl _⟩, by repeat (first | exact Drawn0.refl _ | apply Drawn0.step)⟩
              case round =>
                clear H'
                try clear c1
                try clear p2
                try clear c4
                try clear c6
                try clear c6b0
                try clear c6b1
                try clear p6
                try clear c7
                try clear c7b0
                try clear c8
                try clear c9
                try clear c9b0
                try clear c11
                try clear p2
                try clear p6
                obtain ⟨x10_3, x12_3, rfl, rfl, HA, HK3, ⟨m3, rfl⟩⟩ := hrel
                cases gk with
                | zero => exact absurd HA.out (by simp [tenorref5_Of.l1])
                | succ k3 =>
                  have H := HA.out
                  clear HA
                  simp only [tenorref5_Of.l1] at H
                  by_cases c12 : x12_3 < a1
                  · rw [if_pos c12] at H
                    have c12b0 : decide (x12_3 < a1) = true := decide_eq_true c12
                    clear c12
                    replace H := Option.bind_eq_some_iff.mp H
                    obtain ⟨t198, A130, H⟩ := H
                    replace H : (tenorref5_Of.l1 k3 a0 a1 (wrap64 (x10_3 + t198)) (wrap64 (x12_3 + 1))) = some (r1, r2) := H
                    have A13 := Aside0.mk A130
                    clear A130
                    have H' := Aside0.mk H
                    clear H
                    go_wp2_with (first | ((with_reducible refine gate_callee (f := 124) rfl ?_); refine goesL_ (some 51) rfl rfl Try.func124 (by kernel_rfl) rfl #[.int .i64 a0, .int .i64 x12_3] rfl (by (try simp only [List.map_toArray, List.map_cons, List.map_nil]); first | done | rfl | (simp only [List.length_drop, List.length_take]; rfl)) ?_; (with_reducible refine (tenorref5_length.calls k3 a0 x12_3 t198 _ A13.out).mono ?_); rintro e w' ⟨rfl, ⟨nd, rfl⟩⟩; refine ⟨_, rfl, ?_⟩))
                    go_roundg k3
                    case measure => have := HJ4.out; have := HK2.out; have := HK3.out; omega
                    case rel => exact ⟨(wrap64 (x10_3 + t198)), (wrap64 (x12_3 + 1)), (by first | rfl | (simp; done) | (simp [*]; done)), (by first | rfl | (simp; done) | (simp [*]; done)), H', ⟨by have := HJ4.out; have := HK2.out; have := HK3.out; omega⟩, by repeat (first | exact Drawn0.refl _ | apply Drawn0.step)⟩
                  · rw [if_neg c12] at H
                    have c12b0 : decide (x12_3 < a1) = false := decide_eq_false c12
                    clear c12
                    simp only [Option.some.injEq, Prod.mk.injEq] at H
                    obtain ⟨rfl, rfl⟩ := H
                    go_wp2
                    go_ret2
                    exact ⟨by first | rfl | (simp; done) | (simp [*]; done), by repeat (first | exact Drawn0.refl _ | apply Drawn0.step)⟩

end Go.Proofs.Ytoncignjcgjhhaa.Q

namespace Go.Proofs.Ytoncignjcgjhhaa.Q
open Go.RowKit Go.Proofs.YtoncignjcgjhhaaW.PrintWords Go.Proofs.YtoncignjcgjhhaaW.PrintLast Go.Proofs.YtoncignjcgjhhaaW.PrintMore
attribute [local go_sem] max2_int min2_int max_two min_two max_three min_three max_four min_four   -- for this text's walks alone
set_option linter.unusedVariables false
set_option linter.unusedSimpArgs false

/-! ### tenorref6_nth: function 133 -/
def tenorref6_nth.l0 : Nat → Int → Int → Int → Int → Int → Option (Int)
  | 0, _, _, _, _, _ => none
  | k + 1, x2, x3, x9, x11, x13 => if (Int.tmod x13 7) = x2 then (if x3 = 5 then (if (wrap64 (x13 + (wrap64 (7 * (wrap64 (x3 - 1)))))) ≥ (wrap64 (x9 + x11)) then (some (wrap64 ((wrap64 (x13 + (wrap64 (7 * (wrap64 (x3 - 1)))))) - 7))) else (some (wrap64 (x13 + (wrap64 (7 * (wrap64 (x3 - 1)))))))) else (some (wrap64 (x13 + (wrap64 (7 * (wrap64 (x3 - 1)))))))) else (tenorref6_nth.l0 k x2 x3 x9 x11 (wrap64 (x13 + 1)))
def tenorref6_nth.f (k : Nat) (a0 : Int) (a1 : Int) (a2 : Int) (a3 : Int) : Option (Int) := (tenorref5_Of.f k a0 a1 1).bind fun bt199 => ((tenorref5_Length.f k a0 a1).bind fun bt201 => (tenorref6_nth.l0 k a2 a3 bt199.1 bt201.1 bt199.1))
theorem tenorref6_nth.mono_l : ∀ k, (∀ y0 y1 y2 y3 y4, LeO (tenorref6_nth.l0 k y0 y1 y2 y3 y4) (tenorref6_nth.l0 (k + 1) y0 y1 y2 y3 y4))
  | 0 => fun _ _ _ _ _ r h => by simp [tenorref6_nth.l0] at h
  | k + 1 => by
    have ih0 := tenorref6_nth.mono_l k
    · intro y0 y1 y2 y3 y4
      unfold tenorref6_nth.l0
      repeat' first
      | (with_reducible exact ih0 _ _ _ _ _)
      | (with_reducible exact tenorref5_Length.mono _ _ _)
      | (with_reducible exact tenorref5_Of.mono _ _ _ _)
      | (with_reducible exact LeO.refl _)
      | (with_reducible exact LeO.none _)
      | (with_reducible refine LeO.ite ?_ ?_)
      | (with_reducible refine LeO.bind ?_ (fun _ => ?_))
      | exact ih0 _ _ _ _ _
      | exact tenorref5_Length.mono _ _ _
      | exact tenorref5_Of.mono _ _ _ _
      | exact LeO.none _
      | refine LeO.ite ?_ ?_
      | refine LeO.bind ?_ (fun _ => ?_)
theorem tenorref6_nth.mono : ∀ a0 a1 a2 a3 k, LeO (tenorref6_nth.f k a0 a1 a2 a3) (tenorref6_nth.f (k + 1) a0 a1 a2 a3) := by
  intro a0 a1 a2 a3 k
  have ih0 := tenorref6_nth.mono_l k
  unfold tenorref6_nth.f
  repeat' first
      | (with_reducible exact ih0 _ _ _ _ _)
      | (with_reducible exact tenorref5_Length.mono _ _ _)
      | (with_reducible exact tenorref5_Of.mono _ _ _ _)
      | (with_reducible exact LeO.refl _)
      | (with_reducible exact LeO.none _)
      | (with_reducible refine LeO.ite ?_ ?_)
      | (with_reducible refine LeO.bind ?_ (fun _ => ?_))
      | exact ih0 _ _ _ _ _
      | exact tenorref5_Length.mono _ _ _
      | exact tenorref5_Of.mono _ _ _ _
      | exact LeO.none _
      | refine LeO.ite ?_ ?_
      | refine LeO.bind ?_ (fun _ => ?_)
set_option maxHeartbeats 8000000 in
set_option maxRecDepth 100000 in
theorem tenorref6_nth.calls (k : Nat) (a0 : Int) (a1 : Int) (a2 : Int) (a3 : Int) (r : Int) (w : World) (h : tenorref6_nth.f k a0 a1 a2 a3 = some r) :
    Calls Try.prog 133 #[.int .i64 a0, .int .i64 a1, .int .i64 a2, .int .i64 a3] w fun e w' => e = .returned (.int .i64 r) ∧ Drawn0 w w' := by
  have H : ((tenorref5_Of.f k a0 a1 1).bind fun bt199 => ((tenorref5_Length.f k a0 a1).bind fun bt201 => (tenorref6_nth.l0 k a2 a3 bt199.1 bt201.1 bt199.1))) = some r := h
  clear h
  replace H := Option.bind_eq_some_iff.mp H
  obtain ⟨⟨t199, t200⟩, A50, H⟩ := H
  replace H : ((tenorref5_Length.f k a0 a1).bind fun bt201 => (tenorref6_nth.l0 k a2 a3 t199 bt201.1 t199)) = some r := H
  have A5 := Aside0.mk A50
  clear A50
  replace H := Option.bind_eq_some_iff.mp H
  obtain ⟨⟨t201, t202⟩, A60, H⟩ := H
  replace H : (tenorref6_nth.l0 k a2 a3 t199 t201 t199) = some r := H
  have A6 := Aside0.mk A60
  clear A60
  have H' := Aside0.mk H
  clear H
  go_enter Try.func133, Try.ntmps133
  go_wp2_with (first | ((with_reducible refine gate_callee (f := 97) rfl ?_); refine goesL_ (some 17) rfl rfl Try.func97 (by kernel_rfl) rfl #[.int .i64 a0, .int .i64 a1, .int .i64 1] rfl (by (try simp only [List.map_toArray, List.map_cons, List.map_nil]); first | done | rfl | (simp only [List.length_drop, List.length_take]; rfl)) ?_; (with_reducible refine (tenorref5_Of.calls k a0 a1 1 t199 t200 _ A5.out).mono ?_); rintro e w' ⟨rfl, ⟨nd, rfl⟩⟩; refine ⟨_, rfl, ?_⟩) | ((with_reducible refine gate_callee (f := 117) rfl ?_); refine goesL_ (some 23) rfl rfl Try.func117 (by kernel_rfl) rfl #[.int .i64 a0, .int .i64 a1] rfl (by (try simp only [List.map_toArray, List.map_cons, List.map_nil]); first | done | rfl | (simp only [List.length_drop, List.length_take]; rfl)) ?_; (with_reducible refine (tenorref5_Length.calls k a0 a1 t201 t202 _ A6.out).mono ?_); rintro e w' ⟨rfl, ⟨nd, rfl⟩⟩; refine ⟨_, rfl, ?_⟩))
  go_loopg [13] k (fun kq v13 w' => ∃ (x13_1 : Int), v13 = .int .i64 x13_1 ∧ Aside0 (tenorref6_nth.l0 kq a2 a3 t199 t201 x13_1 = some r) ∧ Aside0 (kq ≤ k) ∧ Drawn0 w w')
  case atStart => exact ⟨(t199), (by first | rfl | (simp; done) | (simp [*]; done)), H', ⟨Nat.le_refl _⟩, by repeat (first | exact Drawn0.refl _ | apply Drawn0.step)⟩
  case round =>
    clear H'
    try clear c1
    try clear p2
    obtain ⟨x13_1, rfl, HA, HK1, ⟨m1, rfl⟩⟩ := hrel
    cases gk with
    | zero => exact absurd HA.out (by simp [tenorref6_nth.l0])
    | succ k1 =>
      have H := HA.out
      clear HA
      simp only [tenorref6_nth.l0] at H
      by_cases c7 : (Int.tmod x13_1 7) = a2
      · rw [if_pos c7] at H
        have c7b0 : ((Int.tmod x13_1 7) == a2) = true := beq_iff_eq.mpr c7
        have c7b1 : ((Int.tmod x13_1 7) != a2) = false := bne_eq_false_iff_eq.mpr c7
        clear c7
        by_cases c8 : a3 = 5
        · rw [if_pos c8] at H
          have c8b0 : (a3 == 5) = true := beq_iff_eq.mpr c8
          have c8b1 : (a3 != 5) = false := bne_eq_false_iff_eq.mpr c8
          clear c8
          by_cases c9 : (wrap64 (x13_1 + (wrap64 (7 * (wrap64 (a3 - 1)))))) ≥ (wrap64 (t199 + t201))
          · rw [if_pos c9] at H
            have c9b0 : decide ((wrap64 (t199 + t201)) ≤ (wrap64 (x13_1 + (wrap64 (7 * (wrap64 (a3 - 1))))))) = true := decide_eq_true c9
            clear c9
            obtain rfl := Option.some.inj H
            go_wp2
            go_ret
            exact ⟨by first | rfl | (simp; done) | (simp [*]; done), by repeat (first | exact Drawn0.refl _ | apply Drawn0.step)⟩
          · rw [if_neg c9] at H
            have c9b0 : decide ((wrap64 (t199 + t201)) ≤ (wrap64 (x13_1 + (wrap64 (7 * (wrap64 (a3 - 1))))))) = false := decide_eq_false c9
            clear c9
            obtain rfl := Option.some.inj H
            go_wp2
            go_ret
            exact ⟨by first | rfl | (simp; done) | (simp [*]; done), by repeat (first | exact Drawn0.refl _ | apply Drawn0.step)⟩
        · rw [if_neg c8] at H
          have c8b0 : (a3 == 5) = false := beq_eq_false_iff_ne.mpr c8
          have c8b1 : (a3 != 5) = true := bne_iff_ne.mpr c8
          obtain rfl := Option.some.inj H
          go_wp2
          go_ret
          exact ⟨by first | rfl | (simp; done) | (simp [*]; done), by repeat (first | exact Drawn0.refl _ | apply Drawn0.step)⟩
      · rw [if_neg c7] at H
        have c7b0 : ((Int.tmod x13_1 7) == a2) = false := beq_eq_false_iff_ne.mpr c7
        have c7b1 : ((Int.tmod x13_1 7) != a2) = true := bne_iff_ne.mpr c7
        have H' := Aside0.mk H
        clear H
        go_wp2
        go_roundg k1
        case measure => have := HK1.out; omega
        case rel => exact ⟨(wrap64 (x13_1 + 1)), (by first | rfl | (simp; done) | (simp [*]; done)), H', ⟨by have := HK1.out; omega⟩, by repeat (first | exact Drawn0.refl _ | apply Drawn0.step)⟩

end Go.Proofs.Ytoncignjcgjhhaa.Q

namespace Go.Proofs.Ytoncignjcgjhhaa.R
open Go.RowKit Go.Proofs.YtoncignjcgjhhaaW.PrintWords Go.Proofs.YtoncignjcgjhhaaW.PrintLast Go.Proofs.YtoncignjcgjhhaaW.PrintMore
open Go.Proofs.Ytoncignjcgjhhaa.Q
open Go.Proofs.Ytoncignjcgjhhaa.L (w64 td tm tm0)

theorem Leap (y : Int) : tenorref5_Leap.f y = some (M.leap y) := by
  unfold tenorref5_Leap.f M.leap
  have e : ((Int.tmod y 400 == 0) : Bool) = decide (y % 400 = 0) := by
    rw [Bool.eq_iff_iff, beq_iff_eq, decide_eq_true_eq, tm0]
  rw [e]
  simp only [tm0]
  by_cases h4 : y % 4 = 0
  · rw [if_pos h4]
    by_cases h100 : y % 100 = 0
    · rw [if_pos h100]; congr 1; rw [decide_eq_decide]; omega
    · rw [if_neg h100]; congr 1; symm; rw [decide_eq_true_eq]; omega
  · rw [if_neg h4]; congr 1; rw [decide_eq_decide]; omega

theorem length_k (k : Nat) (y m : Int) : tenorref5_length.f (k + 1) y m = some (M.mlen y m) := by
  unfold tenorref5_length.f M.mlen
  simp only [tenorref5_length.j0]
  by_cases h4 : m = 4
  · subst h4; simp
  rw [if_neg h4]
  by_cases h6 : m = 6
  · subst h6; simp
  rw [if_neg h6]
  by_cases h9 : m = 9
  · subst h9; simp
  rw [if_neg h9]
  by_cases h11 : m = 11
  · subst h11; simp
  have e11 : (m == 11) = false := by simpa using h11
  rw [e11]
  simp only [Bool.false_eq_true, if_false]
  by_cases h2 : m = 2
  · rw [if_pos h2, if_pos h2, Leap]; cases M.leap y <;> rfl
  · rw [if_neg h2, if_neg h2, if_neg h4, if_neg h6, if_neg h9, if_neg h11]
theorem length_0 (y m : Int) : tenorref5_length.f 0 y m = none := by
  unfold tenorref5_length.f
  repeat' split
  all_goals rfl
theorem length (y m : Int) : Ev (fun k => tenorref5_length.f k y m) (M.mlen y m) := Ev.step (fun k => length_k k y m) (Ev.now _)

theorem Length (y m : Int) : Ev (fun k => tenorref5_Length.f k y m) (if 1900 ≤ y ∧ y ≤ 2199 ∧ 1 ≤ m ∧ m ≤ 12 then (M.mlen y m, 0) else (0, 50)) := by
  by_cases h : 1900 ≤ y ∧ y ≤ 2199 ∧ 1 ≤ m ∧ m ≤ 12
  · rw [if_pos h]
    refine Ev.congr (fun k => ?_) (Ev.bind (f := fun _ t => some (t, (0 : Int))) (length y m) (Ev.now _))
    unfold tenorref5_Length.f
    rw [if_neg (by omega), if_neg (by omega), if_neg (by omega), if_neg (by omega)]
  · rw [if_neg h]
    refine Ev.congr (fun k => ?_) (Ev.now _)
    unfold tenorref5_Length.f
    by_cases h1 : y < 1900
    · rw [if_pos h1]
    rw [if_neg h1]
    by_cases h2 : y > 2199
    · rw [if_pos h2]
    rw [if_neg h2]
    by_cases h3 : m < 1
    · rw [if_pos h3]
    rw [if_neg h3, if_pos (by omega)]

theorem Of_l1 (y m n : Int) (hn : -1000000 ≤ n) (hn1 : n ≤ 2000000) (hm : 1 ≤ m) (hm1 : m ≤ 12) : ∀ (f : Nat) (i : Int), 1 ≤ i → i ≤ m → m - i = f →
    Ev (fun k => tenorref5_Of.l1 k y m (n + M.cum y i) i) (n + M.cum y m, 0)
  | 0, i, a, b, c => by
    have e : i = m := by omega
    refine Ev.step (f := fun _ => some (n + M.cum y m, (0 : Int))) (fun k => ?_) (Ev.now _)
    simp only [tenorref5_Of.l1]
    rw [if_neg (by omega), e]
  | f + 1, i, a, b, c => by
    have ih := Of_l1 y m n hn hn1 hm hm1 f (i + 1) (by omega) (by omega) (by omega)
    have r := M.cum_rng y i
    have l := M.mlen_rng y i
    have s := M.cum_succ y i a (by omega)
    refine Ev.step (fun k => ?_) (Ev.bind (f := fun k t => tenorref5_Of.l1 k y m (wrap64 (n + M.cum y i + t)) (wrap64 (i + 1))) (length y i) ?_)
    · simp only [tenorref5_Of.l1]; rw [if_pos (by omega)]
    · rw [w64 (by omega) (by omega), w64 (by omega) (by omega), show n + M.cum y i + M.mlen y i = n + M.cum y (i + 1) from by omega]
      exact ih

theorem Of_l0 (y m d : Int) (h0 : 1900 ≤ y) (h1 : y ≤ 2199) (hm : 1 ≤ m) (hm1 : m ≤ 12) (hd : 1 ≤ d) (hd1 : d ≤ 31) : ∀ (f : Nat) (i : Int), 1900 ≤ i → i ≤ y → y - i = f →
    Ev (fun k => tenorref5_Of.l0 k y m (d - 1 + M.before i) i) (M.dayOf y m d, 0)
  | 0, i, a, b, c => by
    have e : i = y := by omega
    have hb := L.before_rng y (by omega) (by omega)
    have h := Of_l1 y m (d - 1 + M.before y) (by omega) (by omega) hm hm1 (m - 1).toNat 1 (by omega) hm (by omega)
    rw [M.cum_1, Int.add_zero, show d - 1 + M.before y + M.cum y m = M.dayOf y m d from by unfold M.dayOf; omega] at h
    refine Ev.step (fun k => ?_) h
    simp only [tenorref5_Of.l0]
    rw [if_neg (by omega), e]
  | f + 1, i, a, b, c => by
    have ih := Of_l0 y m d h0 h1 hm hm1 hd hd1 f (i + 1) (by omega) (by omega) (by omega)
    have hb := L.before_rng i (by omega) (by omega)
    have hs := M.before_succ i
    refine Ev.step (fun k => ?_) ih
    simp only [tenorref5_Of.l0]
    rw [if_pos (by omega), Leap]
    simp only [Option.bind_some]
    unfold M.lp at hs
    by_cases hl : M.leap i = true
    · rw [if_pos hl] at hs ⊢
      rw [w64 (x := d - 1 + M.before i + 365) (by omega) (by omega), w64 (by omega) (by omega), w64 (by omega) (by omega), show d - 1 + M.before i + 365 + 1 = d - 1 + M.before (i + 1) from by omega]
    · rw [if_neg hl] at hs ⊢
      rw [w64 (x := d - 1 + M.before i + 365) (by omega) (by omega), w64 (by omega) (by omega), show d - 1 + M.before i + 365 = d - 1 + M.before (i + 1) from by omega]

theorem Of (y m d : Int) : Ev (fun k => tenorref5_Of.f k y m d) (if M.isDate y m d then (M.dayOf y m d, 0) else (0, 50)) := by
  have hl := M.mlen_rng y m
  by_cases hy : 1900 ≤ y ∧ y ≤ 2199 ∧ 1 ≤ m ∧ m ≤ 12
  · have hL := Length y m
    rw [if_pos hy] at hL
    refine Ev.congr (fun k => rfl) (Ev.bind hL ?_)
    simp only [if_true]
    by_cases h1 : d < 1
    · refine Ev.congr (fun k => if_pos h1) ?_
      rw [if_neg (show ¬ M.isDate y m d from fun e => by have := e.2.2.2.2.1; omega)]
      exact Ev.step (f := fun _ => some ((0 : Int), (50 : Int))) (fun k => by simp only [tenorref5_Of.j0, if_true]) (Ev.now _)
    · refine Ev.congr (fun k => if_neg h1) ?_
      by_cases h2 : d ≤ M.mlen y m
      · rw [if_pos (show M.isDate y m d from ⟨hy.1, hy.2.1, hy.2.2.1, hy.2.2.2, by omega, h2⟩)]
        have h := Of_l0 y m d hy.1 hy.2.1 hy.2.2.1 hy.2.2.2 (by omega) (by omega) (y - 1900).toNat 1900 (by omega) hy.1 (by omega)
        rw [M.before_1900, Int.add_zero] at h
        refine Ev.step (fun k => ?_) h
        rw [show decide (d > M.mlen y m) = false from decide_eq_false (by omega)]
        simp only [tenorref5_Of.j0, Bool.false_eq_true, if_false]
        rw [w64 (by omega) (by omega)]
      · rw [if_neg (show ¬ M.isDate y m d from fun e => h2 e.2.2.2.2.2)]
        rw [show decide (d > M.mlen y m) = true from decide_eq_true (by omega)]
        exact Ev.step (f := fun _ => some ((0 : Int), (50 : Int))) (fun k => by simp only [tenorref5_Of.j0, if_true]) (Ev.now _)
  · rw [if_neg (show ¬ M.isDate y m d from fun e => hy ⟨e.1, e.2.1, e.2.2.1, e.2.2.2.1⟩)]
    have hL := Length y m
    rw [if_neg hy] at hL
    refine Ev.congr (fun k => rfl) (Ev.bind hL ?_)
    simp only [show ¬ ((50 : Int) = 0) from by decide, if_false]
    exact Ev.step (f := fun _ => some ((0 : Int), (50 : Int))) (fun k => by simp only [tenorref5_Of.j0, if_true]) (Ev.now _)

theorem Civil_l1 (y d : Int) (h0 : 0 ≤ d) (h1 : d < 365 + M.lp y) : ∀ (f : Nat) (m : Int), 1 ≤ m → m ≤ M.monOf y d → M.monOf y d - m = f →
    Ev (fun k => tenorref5_Civil.l1 k (d - M.cum y m) y m) (y, M.monOf y d, d - M.cum y (M.monOf y d) + 1, 0)
  | 0, m, a, b, c => by
    obtain ⟨p, q, r, s⟩ := M.monOf_spec y d h0 h1
    have e : m = M.monOf y d := by omega
    have hc := M.cum_succ y (M.monOf y d) p q
    have hg := M.cum_rng y (M.monOf y d)
    have hl := M.lp_01 y
    rw [e]
    refine Ev.step (fun k => ?_) (Ev.bind (f := fun _ _ => some (y, M.monOf y d, d - M.cum y (M.monOf y d) + 1, (0 : Int))) (length y (M.monOf y d)) (Ev.now _))
    simp only [tenorref5_Civil.l1]
    cases k with
    | zero => rw [length_0]; rfl
    | succ k =>
      rw [length_k]; simp only [Option.bind_some]
      rw [if_neg (by omega), w64 (by omega) (by omega)]
  | f + 1, m, a, b, c => by
    obtain ⟨p, q, r, s⟩ := M.monOf_spec y d h0 h1
    have ih := Civil_l1 y d h0 h1 f (m + 1) (by omega) (by omega) (by omega)
    have hc := M.cum_succ y m a (by omega)
    have hg := M.cum_rng y m
    have hle := M.cum_le y (show 1 ≤ m + 1 by omega) (show m + 1 ≤ M.monOf y d by omega) (by omega)
    have hl := M.lp_01 y
    have hml := M.mlen_rng y m
    refine Ev.step (fun k => ?_) (Ev.bind (f := fun k _ => tenorref5_Civil.l1 k (d - M.cum y (m + 1)) y (m + 1)) (length y m) ih)
    simp only [tenorref5_Civil.l1]
    cases k with
    | zero => rw [length_0]; rfl
    | succ k =>
      rw [length_k]; simp only [Option.bind_some]
      rw [if_pos (by omega), w64 (by omega) (by omega), w64 (by omega) (by omega), show d - M.cum y m - M.mlen y m = d - M.cum y (m + 1) from by omega]

theorem Civil_l0 (n : Int) (h0 : 0 ≤ n) (h1 : n ≤ 109572) : ∀ (f : Nat) (y : Int), 1900 ≤ y → y ≤ M.yearOf n → M.yearOf n - y = f →
    Ev (fun k => tenorref5_Civil.l0 k (n - M.before y) y) (M.civY n, M.civM n, M.civD n, 0)
  | 0, y, a, b, c => by
    obtain ⟨p, q, r, s⟩ := M.yearOf_spec n h0 h1
    have e : y = M.yearOf n := by omega
    have hs := M.before_succ (M.yearOf n)
    have hb := L.before_rng (M.yearOf n) (by omega) (by omega)
    obtain ⟨p2, q2, r2, s2⟩ := M.monOf_spec (M.yearOf n) (n - M.before (M.yearOf n)) (by omega) (by omega)
    have h := Civil_l1 (M.yearOf n) (n - M.before (M.yearOf n)) (by omega) (by omega) (M.monOf (M.yearOf n) (n - M.before (M.yearOf n)) - 1).toNat 1 (by omega) p2 (by omega)
    rw [M.cum_1, Int.sub_zero] at h
    have h2 : Ev (fun k => tenorref5_Civil.j2 k (n - M.before (M.yearOf n)) (M.yearOf n)) (M.civY n, M.civM n, M.civD n, 0) := Ev.step (fun k => rfl) h
    refine Ev.step (fun k => ?_) h2
    rw [e]
    simp only [tenorref5_Civil.l0]
    rw [Leap]
    simp only [Option.bind_some]
    unfold M.lp at hs
    by_cases hl : M.leap (M.yearOf n) = true
    · rw [if_pos hl] at hs ⊢; rw [if_pos (by omega)]
    · rw [if_neg hl] at hs ⊢; rw [if_pos (by omega)]
  | f + 1, y, a, b, c => by
    obtain ⟨p, q, r, s⟩ := M.yearOf_spec n h0 h1
    have ih := Civil_l0 n h0 h1 f (y + 1) (by omega) (by omega) (by omega)
    have hle := M.before_le (show y + 1 ≤ M.yearOf n by omega)
    have hs := M.before_succ y
    have hb := L.before_rng y (by omega) (by omega)
    refine Ev.step (fun k => ?_) ih
    simp only [tenorref5_Civil.l0]
    rw [Leap]
    simp only [Option.bind_some]
    unfold M.lp at hs
    by_cases hl : M.leap y = true
    · rw [if_pos hl] at hs ⊢
      rw [if_neg (by omega), w64 (by omega) (by omega), w64 (by omega) (by omega), show n - M.before y - 366 = n - M.before (y + 1) from by omega]
    · rw [if_neg hl] at hs ⊢
      rw [if_neg (by omega), w64 (by omega) (by omega), w64 (by omega) (by omega), show n - M.before y - 365 = n - M.before (y + 1) from by omega]

theorem Civil (n : Int) : Ev (fun k => tenorref5_Civil.f k n) (if 0 ≤ n ∧ n ≤ 109572 then (M.civY n, M.civM n, M.civD n, 0) else (0, 0, 0, 51)) := by
  by_cases h : 0 ≤ n ∧ n ≤ 109572
  · rw [if_pos h]
    obtain ⟨p, q, r, s⟩ := M.yearOf_spec n h.1 h.2
    have h2 := Civil_l0 n h.1 h.2 (M.yearOf n - 1900).toNat 1900 (by omega) p (by omega)
    rw [M.before_1900, Int.sub_zero] at h2
    refine Ev.congr (fun k => ?_) (Ev.step (g := fun k => tenorref5_Civil.j0 k n false) (fun k => by simp only [tenorref5_Civil.j0, Bool.false_eq_true, if_false]) h2)
    unfold tenorref5_Civil.f
    rw [if_neg (by omega), show decide (n > 109572) = false from decide_eq_false (by omega)]
  · rw [if_neg h]
    refine Ev.congr (fun k => ?_) (Ev.step (g := fun k => tenorref5_Civil.j0 k n true) (f := fun _ => some ((0 : Int), (0 : Int), (0 : Int), (51 : Int))) (fun k => by simp only [tenorref5_Civil.j0, if_true]) (Ev.now _))
    unfold tenorref5_Civil.f
    by_cases h0 : n < 0
    · rw [if_pos h0]
    · rw [if_neg h0, show decide (n > 109572) = true from decide_eq_true (by omega)]
end Go.Proofs.Ytoncignjcgjhhaa.R

namespace Go.Proofs.Ytoncignjcgjhhaa.H
open Go.RowKit Go.Maps Go.Proofs.YtoncignjcgjhhaaW.PrintWords Go.Proofs.YtoncignjcgjhhaaW.PrintLast Go.Proofs.YtoncignjcgjhhaaW.PrintMore

theorem easter_of (y m d : Int) (h0 : 1900 ≤ y) (h1 : y ≤ 2199) (em : m = M.eT y / 31) (ed : d = M.eT y % 31 + 1) (w : World) :
    Calls Try.prog 97 #[.int .i64 y, .int .i64 m, .int .i64 d] w fun e w' => e = .returned (.tuple #[.int .i64 (M.easterDay y), .int .i64 0]) ∧ Drawn0 w w' := by
  obtain ⟨hd, _⟩ := M.easter_spec y h0 h1
  subst em ed
  have h := R.Of y (M.eT y / 31) (M.eT y % 31 + 1)
  rw [if_pos hd] at h
  obtain ⟨k, hk⟩ := h.rounds
  exact Q.tenorref5_Of.calls k y _ _ _ _ w hk

set_option maxHeartbeats 1000000 in
set_option maxRecDepth 100000 in
theorem easter5_yes (y : Int) (h0 : 1900 ≤ y) (h1 : y ≤ 2199) (w : World) :
    Calls Try.prog 134 #[.int .i64 y] w fun e w' => e = .returned (.tuple #[.int .i64 (M.easterDay y), .int .i64 0]) ∧ Drawn0 w w' := by
  have g0 : ¬ y < 1900 := by omega
  have g1 : ¬ 2199 < y := by omega
  go_enter Try.func134, Try.ntmps134
  go_wp2_with fail
  refine (easter_of y _ _ h0 h1 ?_ ?_ _).mono ?_
  · simp only [M.eT, m4]
  · simp only [M.eT, m4]
  rintro e w' ⟨rfl, ⟨n2, rfl⟩⟩
  go_wp2_with fail
  go_ret2
  exact ⟨rfl, by repeat (first | exact Drawn0.refl _ | apply Drawn0.step)⟩

theorem easter5_no (y : Int) (h : ¬ (1900 ≤ y ∧ y ≤ 2199)) (w : World) :
    Calls Try.prog 134 #[.int .i64 y] w fun e w' => e = .returned (.tuple #[.int .i64 0, .int .i64 50]) ∧ Drawn0 w w' := by
  by_cases h1 : y < 1900
  · clear h
    go_enter Try.func134, Try.ntmps134
    go_wp2_with fail
    go_ret2
    exact ⟨rfl, by repeat (first | exact Drawn0.refl _ | apply Drawn0.step)⟩
  · have h2 : 2199 < y := by omega
    clear h
    go_enter Try.func134, Try.ntmps134
    go_wp2_with fail
    go_ret2
    exact ⟨rfl, by repeat (first | exact Drawn0.refl _ | apply Drawn0.step)⟩

theorem easter5_calls (y : Int) (w : World) : Calls Try.prog 134 #[.int .i64 y] w fun e w' => e = .returned (.tuple #[.int .i64 (easterF y).1, .int .i64 (easterF y).2]) ∧ Drawn0 w w' := by
  unfold easterF
  by_cases h : 1900 ≤ y ∧ y ≤ 2199
  · rw [if_pos h]; exact easter5_yes y h.1 h.2 w
  · rw [if_neg h]; exact easter5_no y h w
end Go.Proofs.Ytoncignjcgjhhaa.H

namespace Go.Proofs.Ytoncignjcgjhhaa.Q
open Go.RowKit Go.Proofs.YtoncignjcgjhhaaW.PrintWords Go.Proofs.YtoncignjcgjhhaaW.PrintLast Go.Proofs.YtoncignjcgjhhaaW.PrintMore
attribute [local go_sem] max2_int min2_int max_two min_two max_three min_three max_four min_four   -- for this text's walks alone
set_option linter.unusedVariables false
set_option linter.unusedSimpArgs false

def tenorref5_Easter.f (a0 : Int) : Option (Int × Int) := some (Go.Proofs.Ytoncignjcgjhhaa.H.easterF a0)
theorem tenorref5_Easter.calls (a0 : Int) (r1 : Int) (r2 : Int) (w : World) (h : tenorref5_Easter.f a0 = some (r1, r2)) :
    Calls Try.prog 134 #[.int .i64 a0] w fun e w' => e = .returned (.tuple #[.int .i64 r1, .int .i64 r2]) ∧ Drawn0 w w' := by
  have e := Option.some.inj h
  have c := Go.Proofs.Ytoncignjcgjhhaa.H.easter5_calls a0 w
  rw [e] at c
  exact c

end Go.Proofs.Ytoncignjcgjhhaa.Q
