/- Contracts of functions of the seat's program: each Go function's Lean function and its walk, written by a program of this session over the kit's print. Not trusted: Lean checks it. -/
import Derived.Test.YtoncignjcgjhhaaZGA
import Derived.Test.YtoncignjcgjhhaaZGC
import Derived.Test.YtoncignjcgjhhaaZGD
import Derived.Test.YtoncignjcgjhhaaZO
set_option linter.unusedVariables false
set_option linter.unusedSimpArgs false
namespace Go.Proofs.Ytoncignjcgjhhaa.Q
open Go.RowKit Go.Proofs.YtoncignjcgjhhaaW.PrintWords Go.Proofs.YtoncignjcgjhhaaW.PrintLast Go.Proofs.YtoncignjcgjhhaaW.PrintMore
attribute [local go_sem] max2_int min2_int max_two min_two max_three min_three max_four min_four   -- for this text's walks alone
set_option linter.unusedVariables false
set_option linter.unusedSimpArgs false

/-! ### count_is: function 61 -/
def count_is.f (a0 : Int) : Option (Bool) := if a0 ≥ 0 then (some (decide (a0 ≤ 109572))) else (some false)
set_option maxHeartbeats 8000000 in
set_option maxRecDepth 100000 in
theorem count_is.calls (a0 : Int) (r : Bool) (w : World) (h : count_is.f a0 = some r) :
    Calls Try.prog 61 #[.int .i64 a0] w fun e w' => e = .returned (.bool r) ∧ Drawn0 w w' := by
  have H : (if a0 ≥ 0 then (some (decide (a0 ≤ 109572))) else (some false)) = some r := h
  clear h
  by_cases c2 : a0 ≥ 0
  · rw [if_pos c2] at H
    have c2b0 : decide (0 ≤ a0) = true := decide_eq_true c2
    clear c2
    obtain rfl := Option.some.inj H
    go_enter Try.func61, Try.ntmps61
    go_wp2
    go_ret
    exact ⟨by first | rfl | (simp; done) | (simp [*]; done), by repeat (first | exact Drawn0.refl _ | apply Drawn0.step)⟩
  · rw [if_neg c2] at H
    have c2b0 : decide (0 ≤ a0) = false := decide_eq_false c2
    clear c2
    obtain rfl := Option.some.inj H
    go_enter Try.func61, Try.ntmps61
    go_wp2
    go_ret
    exact ⟨by first | rfl | (simp; done) | (simp [*]; done), by repeat (first | exact Drawn0.refl _ | apply Drawn0.step)⟩

/-! ### count_leaps: function 62 -/
def count_leaps.l0 : Nat → Int → Int → Int → Int → Option (Int)
  | 0, _, _, _, _ => none
  | k + 1, x0, x3, x7, x8 => if x8 < x3 then ((date_Leap.f x8).bind fun t159 => (if t159 = true then (count_leaps.l0 k x0 x3 (wrap64 (x7 + 366)) (wrap64 (x8 + 1))) else (count_leaps.l0 k x0 x3 x7 (wrap64 (x8 + 1))))) else ((date_Leap.f x3).bind fun t160 => (if t160 = true then ((date_Of.f k x3 1 1).bind fun bt161 => (some (wrap64 (x7 + (wrap64 (x0 - bt161.1)))))) else (some x7)))
def count_leaps.f (k : Nat) (a0 : Int) : Option (Int) := (date_Civil.f k a0).bind fun bt155 => (count_leaps.l0 k a0 bt155.1 0 1900)
theorem count_leaps.mono_l : ∀ k, (∀ y0 y1 y2 y3, LeO (count_leaps.l0 k y0 y1 y2 y3) (count_leaps.l0 (k + 1) y0 y1 y2 y3))
  | 0 => fun _ _ _ _ r h => by simp [count_leaps.l0] at h
  | k + 1 => by
    have ih0 := count_leaps.mono_l k
    · intro y0 y1 y2 y3
      unfold count_leaps.l0
      repeat' first
      | (with_reducible exact ih0 _ _ _ _)
      | (with_reducible exact date_Civil.mono _ _)
      | (with_reducible exact date_Of.mono _ _ _ _)
      | (with_reducible exact LeO.refl _)
      | (with_reducible exact LeO.none _)
      | (with_reducible refine LeO.ite ?_ ?_)
      | (with_reducible refine LeO.bind ?_ (fun _ => ?_))
      | exact ih0 _ _ _ _
      | exact date_Civil.mono _ _
      | exact date_Of.mono _ _ _ _
      | exact LeO.none _
      | refine LeO.ite ?_ ?_
      | refine LeO.bind ?_ (fun _ => ?_)
theorem count_leaps.mono : ∀ a0 k, LeO (count_leaps.f k a0) (count_leaps.f (k + 1) a0) := by
  intro a0 k
  have ih0 := count_leaps.mono_l k
  unfold count_leaps.f
  repeat' first
      | (with_reducible exact ih0 _ _ _ _)
      | (with_reducible exact date_Civil.mono _ _)
      | (with_reducible exact date_Of.mono _ _ _ _)
      | (with_reducible exact LeO.refl _)
      | (with_reducible exact LeO.none _)
      | (with_reducible refine LeO.ite ?_ ?_)
      | (with_reducible refine LeO.bind ?_ (fun _ => ?_))
      | exact ih0 _ _ _ _
      | exact date_Civil.mono _ _
      | exact date_Of.mono _ _ _ _
      | exact LeO.none _
      | refine LeO.ite ?_ ?_
      | refine LeO.bind ?_ (fun _ => ?_)
set_option maxHeartbeats 8000000 in
set_option maxRecDepth 100000 in
theorem count_leaps.calls (k : Nat) (a0 : Int) (r : Int) (w : World) (h : count_leaps.f k a0 = some r) :
    Calls Try.prog 62 #[.int .i64 a0] w fun e w' => e = .returned (.int .i64 r) ∧ Drawn0 w w' := by
  have H : ((date_Civil.f k a0).bind fun bt155 => (count_leaps.l0 k a0 bt155.1 0 1900)) = some r := h
  clear h
  replace H := Option.bind_eq_some_iff.mp H
  obtain ⟨⟨t155, t156, t157, t158⟩, A20, H⟩ := H
  replace H : (count_leaps.l0 k a0 t155 0 1900) = some r := H
  have A2 := Aside0.mk A20
  clear A20
  have H' := Aside0.mk H
  clear H
  go_enter Try.func62, Try.ntmps62
  go_wp2_with (first | ((with_reducible refine gate_callee (f := 93) rfl ?_); refine goesL_ (some 13) rfl rfl Try.func93 (by kernel_rfl) rfl #[.int .i64 a0] rfl (by (try simp only [List.map_toArray, List.map_cons, List.map_nil]); first | done | rfl | (simp only [List.length_drop, List.length_take]; rfl)) ?_; (with_reducible refine (date_Civil.calls k a0 t155 t156 t157 t158 _ A2.out).mono ?_); rintro e w' ⟨rfl, ⟨nd, rfl⟩⟩; refine ⟨_, rfl, ?_⟩))
  go_loopg [7, 8] k (fun kq v7 v8 w' => ∃ (x7_1 : Int) (x8_1 : Int), v7 = .int .i64 x7_1 ∧ v8 = .int .i64 x8_1 ∧ Aside0 (count_leaps.l0 kq a0 t155 x7_1 x8_1 = some r) ∧ Aside0 (kq ≤ k) ∧ Drawn0 w w')
  case atStart => exact ⟨(0), (1900), (by first | rfl | (simp; done) | (simp [*]; done)), (by first | rfl | (simp; done) | (simp [*]; done)), H', ⟨Nat.le_refl _⟩, by repeat (first | exact Drawn0.refl _ | apply Drawn0.step)⟩
  case round =>
    clear H'
    try clear p2
    obtain ⟨x7_1, x8_1, rfl, rfl, HA, HK1, ⟨m1, rfl⟩⟩ := hrel
    cases gk with
    | zero => exact absurd HA.out (by simp [count_leaps.l0])
    | succ k1 =>
      have H := HA.out
      clear HA
      simp only [count_leaps.l0] at H
      by_cases c3 : x8_1 < t155
      · rw [if_pos c3] at H
        have c3b0 : decide (x8_1 < t155) = true := decide_eq_true c3
        clear c3
        replace H := Option.bind_eq_some_iff.mp H
        obtain ⟨t159, A40, H⟩ := H
        replace H : (if t159 = true then (count_leaps.l0 k1 a0 t155 (wrap64 (x7_1 + 366)) (wrap64 (x8_1 + 1))) else (count_leaps.l0 k1 a0 t155 x7_1 (wrap64 (x8_1 + 1)))) = some r := H
        have A4 := Aside0.mk A40
        clear A40
        by_cases c5 : t159 = true
        · subst c5
          have H1 : (count_leaps.l0 k1 a0 t155 (wrap64 (x7_1 + 366)) (wrap64 (x8_1 + 1))) = some r := by rw [if_pos rfl] at H; exact H
          clear H
          have H := H1
          clear H1
          have H' := Aside0.mk H
          clear H
          go_wp2_with (first | ((with_reducible refine gate_callee (f := 94) rfl ?_); refine goesL_ (some 24) rfl rfl Try.func94 (by kernel_rfl) rfl #[.int .i64 x8_1] rfl (by (try simp only [List.map_toArray, List.map_cons, List.map_nil]); first | done | rfl | (simp only [List.length_drop, List.length_take]; rfl)) ?_; (with_reducible refine (date_Leap.calls x8_1 true _ A4.out).mono ?_); rintro e w' ⟨rfl, ⟨nd, rfl⟩⟩; refine ⟨_, rfl, ?_⟩))
          go_roundg k1
          case measure => have := HK1.out; omega
          case rel => exact ⟨(wrap64 (x7_1 + 366)), (wrap64 (x8_1 + 1)), (by first | rfl | (simp; done) | (simp [*]; done)), (by first | rfl | (simp; done) | (simp [*]; done)), H', ⟨by have := HK1.out; omega⟩, by repeat (first | exact Drawn0.refl _ | apply Drawn0.step)⟩
        · replace c5 := Bool.eq_false_iff.mpr c5
          subst c5
          have H1 : (count_leaps.l0 k1 a0 t155 x7_1 (wrap64 (x8_1 + 1))) = some r := by rw [if_neg (show ¬ (false = true) by decide)] at H; exact H
          clear H
          have H := H1
          clear H1
          have H' := Aside0.mk H
          clear H
          go_wp2_with (first | ((with_reducible refine gate_callee (f := 94) rfl ?_); refine goesL_ (some 24) rfl rfl Try.func94 (by kernel_rfl) rfl #[.int .i64 x8_1] rfl (by (try simp only [List.map_toArray, List.map_cons, List.map_nil]); first | done | rfl | (simp only [List.length_drop, List.length_take]; rfl)) ?_; (with_reducible refine (date_Leap.calls x8_1 false _ A4.out).mono ?_); rintro e w' ⟨rfl, ⟨nd, rfl⟩⟩; refine ⟨_, rfl, ?_⟩))
          go_roundg k1
          case measure => have := HK1.out; omega
          case rel => exact ⟨(x7_1), (wrap64 (x8_1 + 1)), (by first | rfl | (simp; done) | (simp [*]; done)), (by first | rfl | (simp; done) | (simp [*]; done)), H', ⟨by have := HK1.out; omega⟩, by repeat (first | exact Drawn0.refl _ | apply Drawn0.step)⟩
      · rw [if_neg c3] at H
        have c3b0 : decide (x8_1 < t155) = false := decide_eq_false c3
        clear c3
        replace H := Option.bind_eq_some_iff.mp H
        obtain ⟨t160, A60, H⟩ := H
        replace H : (if t160 = true then ((date_Of.f k1 t155 1 1).bind fun bt161 => (some (wrap64 (x7_1 + (wrap64 (a0 - bt161.1)))))) else (some x7_1)) = some r := H
        have A6 := Aside0.mk A60
        clear A60
        by_cases c7 : t160 = true
        · subst c7
          have H1 : ((date_Of.f k1 t155 1 1).bind fun bt161 => (some (wrap64 (x7_1 + (wrap64 (a0 - bt161.1)))))) = some r := by rw [if_pos rfl] at H; exact H
          clear H
          have H := H1
          clear H1
          replace H := Option.bind_eq_some_iff.mp H
          obtain ⟨⟨t161, t162⟩, A80, H⟩ := H
          replace H : (some (wrap64 (x7_1 + (wrap64 (a0 - t161))))) = some r := H
          have A8 := Aside0.mk A80
          clear A80
          obtain rfl := Option.some.inj H
          go_wp2_with (first | ((with_reducible refine gate_callee (f := 94) rfl ?_); refine goesL_ (some 28) rfl rfl Try.func94 (by kernel_rfl) rfl #[.int .i64 t155] rfl (by (try simp only [List.map_toArray, List.map_cons, List.map_nil]); first | done | rfl | (simp only [List.length_drop, List.length_take]; rfl)) ?_; (with_reducible refine (date_Leap.calls t155 true _ A6.out).mono ?_); rintro e w' ⟨rfl, ⟨nd, rfl⟩⟩; refine ⟨_, rfl, ?_⟩) | ((with_reducible refine gate_callee (f := 95) rfl ?_); refine goesL_ (some 31) rfl rfl Try.func95 (by kernel_rfl) rfl #[.int .i64 t155, .int .i64 1, .int .i64 1] rfl (by (try simp only [List.map_toArray, List.map_cons, List.map_nil]); first | done | rfl | (simp only [List.length_drop, List.length_take]; rfl)) ?_; (with_reducible refine (date_Of.calls k1 t155 1 1 t161 t162 _ A8.out).mono ?_); rintro e w' ⟨rfl, ⟨nd, rfl⟩⟩; refine ⟨_, rfl, ?_⟩))
          go_ret
          exact ⟨by first | rfl | (simp; done) | (simp [*]; done), by repeat (first | exact Drawn0.refl _ | apply Drawn0.step)⟩
        · replace c7 := Bool.eq_false_iff.mpr c7
          subst c7
          have H1 : (some x7_1) = some r := by rw [if_neg (show ¬ (false = true) by decide)] at H; exact H
          clear H
          have H := H1
          clear H1
          obtain rfl := Option.some.inj H
          go_wp2_with (first | ((with_reducible refine gate_callee (f := 94) rfl ?_); refine goesL_ (some 28) rfl rfl Try.func94 (by kernel_rfl) rfl #[.int .i64 t155] rfl (by (try simp only [List.map_toArray, List.map_cons, List.map_nil]); first | done | rfl | (simp only [List.length_drop, List.length_take]; rfl)) ?_; (with_reducible refine (date_Leap.calls t155 false _ A6.out).mono ?_); rintro e w' ⟨rfl, ⟨nd, rfl⟩⟩; refine ⟨_, rfl, ?_⟩))
          go_ret
          exact ⟨by first | rfl | (simp; done) | (simp [*]; done), by repeat (first | exact Drawn0.refl _ | apply Drawn0.step)⟩

/-! ### count_thirty: function 63 -/
def count_thirty.f (k : Nat) (a0 : Int) (a1 : Int) (a2 : Bool) : Option (Int) := (date_Civil.f k a0).bind fun bt163 => ((date_Civil.f k a1).bind fun bt167 => (if a2 = true then (some (wrap64 ((wrap64 ((wrap64 ((wrap64 (360 * (wrap64 (bt167.1 - bt163.1)))) + (wrap64 (30 * (wrap64 (bt167.2.1 - bt163.2.1)))))) + (mn bt167.2.2.1 30))) - (mn bt163.2.2.1 30)))) else (if (mn bt163.2.2.1 30) = 30 then (some (wrap64 ((wrap64 ((wrap64 ((wrap64 (360 * (wrap64 (bt167.1 - bt163.1)))) + (wrap64 (30 * (wrap64 (bt167.2.1 - bt163.2.1)))))) + (mn bt167.2.2.1 30))) - (mn bt163.2.2.1 30)))) else (some (wrap64 ((wrap64 ((wrap64 ((wrap64 (360 * (wrap64 (bt167.1 - bt163.1)))) + (wrap64 (30 * (wrap64 (bt167.2.1 - bt163.2.1)))))) + bt167.2.2.1)) - (mn bt163.2.2.1 30)))))))
theorem count_thirty.mono : ∀ a0 a1 a2 k, LeO (count_thirty.f k a0 a1 a2) (count_thirty.f (k + 1) a0 a1 a2) := by
  intro a0 a1 a2 k
  unfold count_thirty.f
  repeat' first
      | (with_reducible exact date_Civil.mono _ _)
      | (with_reducible exact LeO.refl _)
      | (with_reducible exact LeO.none _)
      | (with_reducible refine LeO.ite ?_ ?_)
      | (with_reducible refine LeO.bind ?_ (fun _ => ?_))
      | exact date_Civil.mono _ _
      | exact LeO.none _
      | refine LeO.ite ?_ ?_
      | refine LeO.bind ?_ (fun _ => ?_)
set_option maxHeartbeats 8000000 in
set_option maxRecDepth 100000 in
theorem count_thirty.calls (k : Nat) (a0 : Int) (a1 : Int) (a2 : Bool) (r : Int) (w : World) (h : count_thirty.f k a0 a1 a2 = some r) :
    Calls Try.prog 63 #[.int .i64 a0, .int .i64 a1, .bool a2] w fun e w' => e = .returned (.int .i64 r) ∧ Below w.heap.size w w' := by
  have HB := Aside0.mk (Below.refl w.heap.size w)
  have H : ((date_Civil.f k a0).bind fun bt163 => ((date_Civil.f k a1).bind fun bt167 => (if a2 = true then (some (wrap64 ((wrap64 ((wrap64 ((wrap64 (360 * (wrap64 (bt167.1 - bt163.1)))) + (wrap64 (30 * (wrap64 (bt167.2.1 - bt163.2.1)))))) + (mn bt167.2.2.1 30))) - (mn bt163.2.2.1 30)))) else (if (mn bt163.2.2.1 30) = 30 then (some (wrap64 ((wrap64 ((wrap64 ((wrap64 (360 * (wrap64 (bt167.1 - bt163.1)))) + (wrap64 (30 * (wrap64 (bt167.2.1 - bt163.2.1)))))) + (mn bt167.2.2.1 30))) - (mn bt163.2.2.1 30)))) else (some (wrap64 ((wrap64 ((wrap64 ((wrap64 (360 * (wrap64 (bt167.1 - bt163.1)))) + (wrap64 (30 * (wrap64 (bt167.2.1 - bt163.2.1)))))) + bt167.2.2.1)) - (mn bt163.2.2.1 30)))))))) = some r := h
  clear h
  replace H := Option.bind_eq_some_iff.mp H
  obtain ⟨⟨t163, t164, t165, t166⟩, A40, H⟩ := H
  replace H : ((date_Civil.f k a1).bind fun bt167 => (if a2 = true then (some (wrap64 ((wrap64 ((wrap64 ((wrap64 (360 * (wrap64 (bt167.1 - t163)))) + (wrap64 (30 * (wrap64 (bt167.2.1 - t164)))))) + (mn bt167.2.2.1 30))) - (mn t165 30)))) else (if (mn t165 30) = 30 then (some (wrap64 ((wrap64 ((wrap64 ((wrap64 (360 * (wrap64 (bt167.1 - t163)))) + (wrap64 (30 * (wrap64 (bt167.2.1 - t164)))))) + (mn bt167.2.2.1 30))) - (mn t165 30)))) else (some (wrap64 ((wrap64 ((wrap64 ((wrap64 (360 * (wrap64 (bt167.1 - t163)))) + (wrap64 (30 * (wrap64 (bt167.2.1 - t164)))))) + bt167.2.2.1)) - (mn t165 30))))))) = some r := H
  have A4 := Aside0.mk A40
  clear A40
  replace H := Option.bind_eq_some_iff.mp H
  obtain ⟨⟨t167, t168, t169, t170⟩, A50, H⟩ := H
  replace H : (if a2 = true then (some (wrap64 ((wrap64 ((wrap64 ((wrap64 (360 * (wrap64 (t167 - t163)))) + (wrap64 (30 * (wrap64 (t168 - t164)))))) + (mn t169 30))) - (mn t165 30)))) else (if (mn t165 30) = 30 then (some (wrap64 ((wrap64 ((wrap64 ((wrap64 (360 * (wrap64 (t167 - t163)))) + (wrap64 (30 * (wrap64 (t168 - t164)))))) + (mn t169 30))) - (mn t165 30)))) else (some (wrap64 ((wrap64 ((wrap64 ((wrap64 (360 * (wrap64 (t167 - t163)))) + (wrap64 (30 * (wrap64 (t168 - t164)))))) + t169)) - (mn t165 30)))))) = some r := H
  have A5 := Aside0.mk A50
  clear A50
  obtain ⟨ji6, hji6⟩ : ∃ j_ : Int, (mn t165 30) = j_ := ⟨_, rfl⟩
  replace H : (if a2 = true then (some (wrap64 ((wrap64 ((wrap64 ((wrap64 (360 * (wrap64 (t167 - t163)))) + (wrap64 (30 * (wrap64 (t168 - t164)))))) + (mn t169 30))) - (ji6)))) else (if (ji6) = 30 then (some (wrap64 ((wrap64 ((wrap64 ((wrap64 (360 * (wrap64 (t167 - t163)))) + (wrap64 (30 * (wrap64 (t168 - t164)))))) + (mn t169 30))) - (ji6)))) else (some (wrap64 ((wrap64 ((wrap64 ((wrap64 (360 * (wrap64 (t167 - t163)))) + (wrap64 (30 * (wrap64 (t168 - t164)))))) + t169)) - (ji6)))))) = some r := by first | (rw [hji6] at H; exact H) | (simp only [hji6] at H ⊢; exact H)
  (try rw [hji6] at A4)
  (try rw [hji6] at A5)
  (try (have hji6h : ji6 ≤ 30 := by (rw [← hji6]; unfold mn; (repeat' split) <;> omega)))
  (try (have hji6g : ji6 ≤ 64 := by omega))
  have hji6_ : (if 30 < t165 then 30 else t165) = ji6 := hji6
  by_cases c7 : a2 = true
  · subst c7
    have H1 : (some (wrap64 ((wrap64 ((wrap64 ((wrap64 (360 * (wrap64 (t167 - t163)))) + (wrap64 (30 * (wrap64 (t168 - t164)))))) + (mn t169 30))) - (ji6)))) = some r := by rw [if_pos rfl] at H; exact H
    clear H
    have H := H1
    clear H1
    obtain ⟨ji8, hji8⟩ : ∃ j_ : Int, (mn t169 30) = j_ := ⟨_, rfl⟩
    replace H : (some (wrap64 ((wrap64 ((wrap64 ((wrap64 (360 * (wrap64 (t167 - t163)))) + (wrap64 (30 * (wrap64 (t168 - t164)))))) + (ji8))) - (ji6)))) = some r := by first | (rw [hji8] at H; exact H) | (simp only [hji8] at H ⊢; exact H)
    (try rw [hji8] at A4)
    (try rw [hji8] at A5)
    (try (have hji8h : ji8 ≤ 30 := by (rw [← hji8]; unfold mn; (repeat' split) <;> omega)))
    (try (have hji8g : ji8 ≤ 64 := by omega))
    have hji8_ : (if 30 < t169 then 30 else t169) = ji8 := hji8
    obtain rfl := Option.some.inj H
    go_enter Try.func63, Try.ntmps63
    go_wp2_with (first | ((with_reducible refine gate_callee (f := 93) rfl ?_); refine goesL_ (some 17) rfl rfl Try.func93 (by kernel_rfl) rfl #[.int .i64 a0] rfl (by (try simp only [List.map_toArray, List.map_cons, List.map_nil]); first | done | rfl | (simp only [List.length_drop, List.length_take]; rfl)) ?_; (with_reducible refine (date_Civil.calls k a0 t163 t164 t165 t166 _ A4.out).mono ?_); rintro e w' ⟨rfl, ⟨nd, rfl⟩⟩; refine ⟨_, rfl, ?_⟩) | ((with_reducible refine gate_callee (f := 93) rfl ?_); refine goesL_ (some 24) rfl rfl Try.func93 (by kernel_rfl) rfl #[.int .i64 a1] rfl (by (try simp only [List.map_toArray, List.map_cons, List.map_nil]); first | done | rfl | (simp only [List.length_drop, List.length_take]; rfl)) ?_; (with_reducible refine (date_Civil.calls k a1 t167 t168 t169 t170 _ A5.out).mono ?_); rintro e w' ⟨rfl, ⟨nd, rfl⟩⟩; refine ⟨_, rfl, ?_⟩))
    go_ret
    exact ⟨by first | rfl | (simp [errW_none, errW_some] <;> rfl) | (simp only [← hji6, ← hji8]; first | rfl | (simp [errW_none, errW_some] <;> rfl)) | (simp [*, errW_none, errW_some] <;> rfl), by repeat (first | (with_reducible first | exact HB.out | apply below_alloc | apply pw_below_drewN | apply below_drew1) | exact HB.out)⟩
  · replace c7 := Bool.eq_false_iff.mpr c7
    subst c7
    have H1 : (if (ji6) = 30 then (some (wrap64 ((wrap64 ((wrap64 ((wrap64 (360 * (wrap64 (t167 - t163)))) + (wrap64 (30 * (wrap64 (t168 - t164)))))) + (mn t169 30))) - (ji6)))) else (some (wrap64 ((wrap64 ((wrap64 ((wrap64 (360 * (wrap64 (t167 - t163)))) + (wrap64 (30 * (wrap64 (t168 - t164)))))) + t169)) - (ji6))))) = some r := by rw [if_neg (show ¬ (false = true) by decide)] at H; exact H
    clear H
    have H := H1
    clear H1
    by_cases c9 : (ji6) = 30
    · rw [if_pos c9] at H
      have c9b0 : ((ji6) == 30) = true := beq_iff_eq.mpr c9
      have c9b1 : ((ji6) != 30) = false := bne_eq_false_iff_eq.mpr c9
      clear c9
      obtain ⟨ji10, hji10⟩ : ∃ j_ : Int, (mn t169 30) = j_ := ⟨_, rfl⟩
      replace H : (some (wrap64 ((wrap64 ((wrap64 ((wrap64 (360 * (wrap64 (t167 - t163)))) + (wrap64 (30 * (wrap64 (t168 - t164)))))) + (ji10))) - (ji6)))) = some r := by first | (rw [hji10] at H; exact H) | (simp only [hji10] at H ⊢; exact H)
      (try rw [hji10] at A4)
      (try rw [hji10] at A5)
      (try (have hji10h : ji10 ≤ 30 := by (rw [← hji10]; unfold mn; (repeat' split) <;> omega)))
      (try (have hji10g : ji10 ≤ 64 := by omega))
      have hji10_ : (if 30 < t169 then 30 else t169) = ji10 := hji10
      obtain rfl := Option.some.inj H
      go_enter Try.func63, Try.ntmps63
      go_wp2_with (first | ((with_reducible refine gate_callee (f := 93) rfl ?_); refine goesL_ (some 17) rfl rfl Try.func93 (by kernel_rfl) rfl #[.int .i64 a0] rfl (by (try simp only [List.map_toArray, List.map_cons, List.map_nil]); first | done | rfl | (simp only [List.length_drop, List.length_take]; rfl)) ?_; (with_reducible refine (date_Civil.calls k a0 t163 t164 t165 t166 _ A4.out).mono ?_); rintro e w' ⟨rfl, ⟨nd, rfl⟩⟩; refine ⟨_, rfl, ?_⟩) | ((with_reducible refine gate_callee (f := 93) rfl ?_); refine goesL_ (some 24) rfl rfl Try.func93 (by kernel_rfl) rfl #[.int .i64 a1] rfl (by (try simp only [List.map_toArray, List.map_cons, List.map_nil]); first | done | rfl | (simp only [List.length_drop, List.length_take]; rfl)) ?_; (with_reducible refine (date_Civil.calls k a1 t167 t168 t169 t170 _ A5.out).mono ?_); rintro e w' ⟨rfl, ⟨nd, rfl⟩⟩; refine ⟨_, rfl, ?_⟩))
      go_ret
      exact ⟨by first | rfl | (simp [errW_none, errW_some] <;> rfl) | (simp only [← hji6, ← hji10]; first | rfl | (simp [errW_none, errW_some] <;> rfl)) | (simp [*, errW_none, errW_some] <;> rfl), by repeat (first | (with_reducible first | exact HB.out | apply below_alloc | apply pw_below_drewN | apply below_drew1) | exact HB.out)⟩
    · rw [if_neg c9] at H
      have c9b0 : ((ji6) == 30) = false := beq_eq_false_iff_ne.mpr c9
      have c9b1 : ((ji6) != 30) = true := bne_iff_ne.mpr c9
      obtain rfl := Option.some.inj H
      go_enter Try.func63, Try.ntmps63
      go_wp2_with (first | ((with_reducible refine gate_callee (f := 93) rfl ?_); refine goesL_ (some 17) rfl rfl Try.func93 (by kernel_rfl) rfl #[.int .i64 a0] rfl (by (try simp only [List.map_toArray, List.map_cons, List.map_nil]); first | done | rfl | (simp only [List.length_drop, List.length_take]; rfl)) ?_; (with_reducible refine (date_Civil.calls k a0 t163 t164 t165 t166 _ A4.out).mono ?_); rintro e w' ⟨rfl, ⟨nd, rfl⟩⟩; refine ⟨_, rfl, ?_⟩) | ((with_reducible refine gate_callee (f := 93) rfl ?_); refine goesL_ (some 24) rfl rfl Try.func93 (by kernel_rfl) rfl #[.int .i64 a1] rfl (by (try simp only [List.map_toArray, List.map_cons, List.map_nil]); first | done | rfl | (simp only [List.length_drop, List.length_take]; rfl)) ?_; (with_reducible refine (date_Civil.calls k a1 t167 t168 t169 t170 _ A5.out).mono ?_); rintro e w' ⟨rfl, ⟨nd, rfl⟩⟩; refine ⟨_, rfl, ?_⟩))
      go_ret
      exact ⟨by first | rfl | (have e_ : t165 = ji6 := (by by_cases h_ : 30 < t165 <;> simp only [h_, if_true, if_false] at hji6_ <;> omega); rw [e_]; rfl) | (simp [errW_none, errW_some] <;> rfl) | (simp only [← hji6]; first | rfl | (simp [errW_none, errW_some] <;> rfl)) | (simp [*, errW_none, errW_some] <;> rfl), by repeat (first | (with_reducible first | exact HB.out | apply below_alloc | apply pw_below_drewN | apply below_drew1) | exact HB.out)⟩

end Go.Proofs.Ytoncignjcgjhhaa.Q
