/- Contracts of functions of the seat's program: each Go function's Lean function and its walk, written by a program of this session over the kit's print. Not trusted: Lean checks it. -/
import Derived.Test.YtoncignjcgjhhaaDoorZGA
import Derived.Test.YtoncignjcgjhhaaDoorZGB
import Derived.Test.YtoncignjcgjhhaaDoorZGD
import Derived.Test.YtoncignjcgjhhaaDoorZV
set_option linter.unusedVariables false
set_option linter.unusedSimpArgs false
namespace Go.Proofs.YtoncignjcgjhhaaDoor.Q
open Go.RowKit Go.Proofs.YtoncignjcgjhhaaDoorW.PrintWords Go.Proofs.YtoncignjcgjhhaaDoorW.PrintLast Go.Proofs.YtoncignjcgjhhaaDoorW.PrintMore
attribute [local go_sem] max2_int min2_int max_two min_two max_three min_three max_four min_four   -- for this text's walks alone
mutual
def tenorlaw5_DateEaster.j0 : Nat → Int → Int → Int → Int → Int → Int → Bool → Option (Bool)
  | 0, _, _, _, _, _, _, _ => none
  | k + 1, x0, x1, x5, x6, x7, x8, x59 => if x59 = true then (some false) else (if x6 = 0 then ((date_Weekday.f x5).bind fun bt265 => ((date_Of.f k x0 3 22).bind fun bt267 => ((date_Of.f k x0 4 25).bind fun bt269 => (if bt265.1 = 6 then (if x5 < bt267.1 then (some false) else (if x5 > bt269.1 then (some false) else (tenorlaw5_DateEaster.j1 k x0 x1 x7 x8))) else (some false))))) else (tenorlaw5_DateEaster.j1 k x0 x1 x7 x8))
def tenorlaw5_DateEaster.j1 : Nat → Int → Int → Int → Int → Option (Bool)
  | 0, _, _, _, _ => none
  | k + 1, x0, x1, x7, x8 => if x8 = 0 then ((date_Weekday.f x7).bind fun bt271 => ((date_Civil.f k x7).bind fun bt273 => (if bt271.1 = 2 then (if bt273.1 = x0 then (if bt273.2.1 = x1 then (if bt273.2.2.1 < 15 then (some false) else (if bt273.2.2.1 > 21 then (some false) else ((tenorlaw5_awake.f k).bind fun t277 => (some t277)))) else (some false)) else (some false)) else (some false)))) else ((tenorlaw5_awake.f k).bind fun t278 => (some t278))
end
def tenorlaw5_DateEaster.f (k : Nat) (a0 : Int) (a1 : Int) : Option (Bool) := (date_Easter.f a0).bind fun bt261 => ((date_Third.f k a0 a1).bind fun bt263 => (if a0 ≥ 1900 then (if ((bt261.2 == 0) != (decide (a0 ≤ 2199))) = true then (tenorlaw5_DateEaster.j0 k a0 a1 bt261.1 bt261.2 bt263.1 bt263.2 true) else (if a0 ≤ 2199 then (if a1 ≥ 1 then (tenorlaw5_DateEaster.j0 k a0 a1 bt261.1 bt261.2 bt263.1 bt263.2 ((bt263.2 == 0) != (decide (a1 ≤ 12)))) else (tenorlaw5_DateEaster.j0 k a0 a1 bt261.1 bt261.2 bt263.1 bt263.2 ((bt263.2 == 0) != false))) else (tenorlaw5_DateEaster.j0 k a0 a1 bt261.1 bt261.2 bt263.1 bt263.2 ((bt263.2 == 0) != false)))) else (if ((bt261.2 == 0) != false) = true then (tenorlaw5_DateEaster.j0 k a0 a1 bt261.1 bt261.2 bt263.1 bt263.2 true) else (tenorlaw5_DateEaster.j0 k a0 a1 bt261.1 bt261.2 bt263.1 bt263.2 ((bt263.2 == 0) != false)))))
theorem tenorlaw5_DateEaster.mono_l : ∀ k, (∀ y0 y1 y2 y3 y4 y5 y6, LeO (tenorlaw5_DateEaster.j0 k y0 y1 y2 y3 y4 y5 y6) (tenorlaw5_DateEaster.j0 (k + 1) y0 y1 y2 y3 y4 y5 y6)) ∧ (∀ y0 y1 y2 y3, LeO (tenorlaw5_DateEaster.j1 k y0 y1 y2 y3) (tenorlaw5_DateEaster.j1 (k + 1) y0 y1 y2 y3))
 | 0 => ⟨fun _ _ _ _ _ _ _ r h => by simp [tenorlaw5_DateEaster.j0] at h, fun _ _ _ _ r h => by simp [tenorlaw5_DateEaster.j1] at h⟩
 | k + 1 => by
  obtain ⟨ih0, ih1⟩ := tenorlaw5_DateEaster.mono_l k
  refine ⟨?_, ?_⟩
  ·
   intro y0 y1 y2 y3 y4 y5 y6
   unfold tenorlaw5_DateEaster.j0
   repeat' first
   | (with_reducible exact ih0 _ _ _ _ _ _ _)
   | (with_reducible exact ih1 _ _ _ _)
   | (with_reducible exact date_Civil.mono _ _)
   | (with_reducible exact date_Of.mono _ _ _ _)
   | (with_reducible exact date_Third.mono _ _ _)
   | (with_reducible exact tenorlaw5_awake.mono _)
   | (with_reducible exact LeO.refl _)
   | (with_reducible exact LeO.none _)
   | (with_reducible refine LeO.ite ?_ ?_)
   | (with_reducible refine LeO.bind ?_ (fun _ => ?_))
   | exact ih0 _ _ _ _ _ _ _
   | exact ih1 _ _ _ _
   | exact date_Civil.mono _ _
   | exact date_Of.mono _ _ _ _
   | exact date_Third.mono _ _ _
   | exact tenorlaw5_awake.mono _
   | exact LeO.none _
   | refine LeO.ite ?_ ?_
   | refine LeO.bind ?_ (fun _ => ?_)
  ·
   intro y0 y1 y2 y3
   unfold tenorlaw5_DateEaster.j1
   repeat' first
   | (with_reducible exact ih0 _ _ _ _ _ _ _)
   | (with_reducible exact ih1 _ _ _ _)
   | (with_reducible exact date_Civil.mono _ _)
   | (with_reducible exact date_Of.mono _ _ _ _)
   | (with_reducible exact date_Third.mono _ _ _)
   | (with_reducible exact tenorlaw5_awake.mono _)
   | (with_reducible exact LeO.refl _)
   | (with_reducible exact LeO.none _)
   | (with_reducible refine LeO.ite ?_ ?_)
   | (with_reducible refine LeO.bind ?_ (fun _ => ?_))
   | exact ih0 _ _ _ _ _ _ _
   | exact ih1 _ _ _ _
   | exact date_Civil.mono _ _
   | exact date_Of.mono _ _ _ _
   | exact date_Third.mono _ _ _
   | exact tenorlaw5_awake.mono _
   | exact LeO.none _
   | refine LeO.ite ?_ ?_
   | refine LeO.bind ?_ (fun _ => ?_)
theorem tenorlaw5_DateEaster.mono : ∀ a0 a1 k, LeO (tenorlaw5_DateEaster.f k a0 a1) (tenorlaw5_DateEaster.f (k + 1) a0 a1) := by
 intro a0 a1 k
 obtain ⟨ih0, ih1⟩ := tenorlaw5_DateEaster.mono_l k
 unfold tenorlaw5_DateEaster.f
 repeat' first
   | (with_reducible exact ih0 _ _ _ _ _ _ _)
   | (with_reducible exact ih1 _ _ _ _)
   | (with_reducible exact date_Civil.mono _ _)
   | (with_reducible exact date_Of.mono _ _ _ _)
   | (with_reducible exact date_Third.mono _ _ _)
   | (with_reducible exact tenorlaw5_awake.mono _)
   | (with_reducible exact LeO.refl _)
   | (with_reducible exact LeO.none _)
   | (with_reducible refine LeO.ite ?_ ?_)
   | (with_reducible refine LeO.bind ?_ (fun _ => ?_))
   | exact ih0 _ _ _ _ _ _ _
   | exact ih1 _ _ _ _
   | exact date_Civil.mono _ _
   | exact date_Of.mono _ _ _ _
   | exact date_Third.mono _ _ _
   | exact tenorlaw5_awake.mono _
   | exact LeO.none _
   | refine LeO.ite ?_ ?_
   | refine LeO.bind ?_ (fun _ => ?_)
set_option maxHeartbeats 8000000 in
set_option maxRecDepth 100000 in
theorem tenorlaw5_DateEaster.calls (k : Nat) (a0 : Int) (a1 : Int) (r : Bool) (w : World) (h : tenorlaw5_DateEaster.f k a0 a1 = some r) :
  Calls Tryd.prog 6 #[.int .i64 a0, .int .i64 a1] w fun e w' => e = .returned (.bool r) ∧ Below w.heap.size w w' := by
 have HB := Aside0.mk (Below.refl w.heap.size w)
 have H : ((date_Easter.f a0).bind fun bt261 => ((date_Third.f k a0 a1).bind fun bt263 => (if a0 ≥ 1900 then (if ((bt261.2 == 0) != (decide (a0 ≤ 2199))) = true then (tenorlaw5_DateEaster.j0 k a0 a1 bt261.1 bt261.2 bt263.1 bt263.2 true) else (if a0 ≤ 2199 then (if a1 ≥ 1 then (tenorlaw5_DateEaster.j0 k a0 a1 bt261.1 bt261.2 bt263.1 bt263.2 ((bt263.2 == 0) != (decide (a1 ≤ 12)))) else (tenorlaw5_DateEaster.j0 k a0 a1 bt261.1 bt261.2 bt263.1 bt263.2 ((bt263.2 == 0) != false))) else (tenorlaw5_DateEaster.j0 k a0 a1 bt261.1 bt261.2 bt263.1 bt263.2 ((bt263.2 == 0) != false)))) else (if ((bt261.2 == 0) != false) = true then (tenorlaw5_DateEaster.j0 k a0 a1 bt261.1 bt261.2 bt263.1 bt263.2 true) else (tenorlaw5_DateEaster.j0 k a0 a1 bt261.1 bt261.2 bt263.1 bt263.2 ((bt263.2 == 0) != false)))))) = some r := h
 clear h;replace H := Option.bind_eq_some_iff.mp H
 obtain ⟨⟨t261, t262⟩, A30, H⟩ := H
 replace H : ((date_Third.f k a0 a1).bind fun bt263 => (if a0 ≥ 1900 then (if ((t262 == 0) != (decide (a0 ≤ 2199))) = true then (tenorlaw5_DateEaster.j0 k a0 a1 t261 t262 bt263.1 bt263.2 true) else (if a0 ≤ 2199 then (if a1 ≥ 1 then (tenorlaw5_DateEaster.j0 k a0 a1 t261 t262 bt263.1 bt263.2 ((bt263.2 == 0) != (decide (a1 ≤ 12)))) else (tenorlaw5_DateEaster.j0 k a0 a1 t261 t262 bt263.1 bt263.2 ((bt263.2 == 0) != false))) else (tenorlaw5_DateEaster.j0 k a0 a1 t261 t262 bt263.1 bt263.2 ((bt263.2 == 0) != false)))) else (if ((t262 == 0) != false) = true then (tenorlaw5_DateEaster.j0 k a0 a1 t261 t262 bt263.1 bt263.2 true) else (tenorlaw5_DateEaster.j0 k a0 a1 t261 t262 bt263.1 bt263.2 ((bt263.2 == 0) != false))))) = some r := H
 have A3 := Aside0.mk A30;clear A30;replace H := Option.bind_eq_some_iff.mp H
 obtain ⟨⟨t263, t264⟩, A40, H⟩ := H
 replace H : (if a0 ≥ 1900 then (if ((t262 == 0) != (decide (a0 ≤ 2199))) = true then (tenorlaw5_DateEaster.j0 k a0 a1 t261 t262 t263 t264 true) else (if a0 ≤ 2199 then (if a1 ≥ 1 then (tenorlaw5_DateEaster.j0 k a0 a1 t261 t262 t263 t264 ((t264 == 0) != (decide (a1 ≤ 12)))) else (tenorlaw5_DateEaster.j0 k a0 a1 t261 t262 t263 t264 ((t264 == 0) != false))) else (tenorlaw5_DateEaster.j0 k a0 a1 t261 t262 t263 t264 ((t264 == 0) != false)))) else (if ((t262 == 0) != false) = true then (tenorlaw5_DateEaster.j0 k a0 a1 t261 t262 t263 t264 true) else (tenorlaw5_DateEaster.j0 k a0 a1 t261 t262 t263 t264 ((t264 == 0) != false)))) = some r := H
 have A4 := Aside0.mk A40;clear A40;have HC5 := Aside0.mk H;clear H
 go_enter Tryd.func6, Tryd.ntmps6
 go_upto_region 3 with (first | ((with_reducible refine gate_callee (f := 12) rfl ?_); refine goesL_ (some 23) rfl rfl Tryd.func12 (by kernel_rfl) rfl #[.int .i64 a0] rfl (by (try simp only [List.map_toArray, List.map_cons, List.map_nil]); first | done | rfl | (simp only [List.length_drop, List.length_take]; rfl)) ?_; (with_reducible refine (date_Easter.calls a0 t261 t262 _ A3.out).mono ?_); rintro e w' ⟨rfl, ⟨nd, rfl⟩⟩; refine ⟨_, rfl, ?_⟩) | ((with_reducible refine gate_callee (f := 10) rfl ?_); refine goesL_ (some 29) rfl rfl Tryd.func10 (by kernel_rfl) rfl #[.int .i64 a0, .int .i64 a1] rfl (by (try simp only [List.map_toArray, List.map_cons, List.map_nil]); first | done | rfl | (simp only [List.length_drop, List.length_take]; rfl)) ?_; (with_reducible refine (date_Third.calls k a0 a1 t263 t264 _ A4.out).mono ?_); rintro e w' ⟨rfl, ⟨nd, rfl⟩⟩; refine ⟨_, rfl, ?_⟩))
 (try simp only [Act.put, List.setIfInBounds_toArray, List.set_cons_zero, List.set_cons_succ])
 go_cut [59] (fun v59 wc => ∃ (kq : Nat) (x59_4 : Bool), v59 = .bool x59_4 ∧ Aside0 (tenorlaw5_DateEaster.j0 kq a0 a1 t261 t262 t263 t264 x59_4 = some r) ∧ Aside0 (kq ≤ k) ∧ Aside0 (Below w.heap.size w wc))
 case first =>
  have H := HC5.out;clear HC5
  by_cases c6 : a0 ≥ 1900
  ·
   rw [if_pos c6] at H
   have c6b0 : decide (1900 ≤ a0) = true := decide_eq_true c6
   clear c6
   (first | rw [c6b0] | (simp only [i64_w, i32_w]; rw [c6b0]) | skip)
   by_cases c7 : ((t262 == 0) != (decide (a0 ≤ 2199))) = true
   ·
    rw [if_pos c7] at H
    have c7b0 : ((t262 == 0) != (decide (a0 ≤ 2199))) = true := c7
    (try (have c7b1 : decide ((t262 == 0) = (decide (a0 ≤ 2199))) = false := by simpa using c7))
    (try (have c7b2 : ((t262 == 0) == (decide (a0 ≤ 2199))) = false := by simpa using c7))
    (try (have c7b3 : ¬ ((t262 == 0) = (decide (a0 ≤ 2199))) := by simpa using c7))
    clear c7;have H' := Aside0.mk H;clear H
    go_wp2
    go_meet
    case rel => exact ⟨_, (true), (by first | rfl | (simp; done) | (simp [*]; done)), H', ⟨by first | omega | exact Nat.le_refl _⟩, ⟨by repeat (first | (with_reducible first | exact HB.out | apply below_alloc | apply pw_below_drewN | apply below_drew1) | exact HB.out)⟩⟩
   ·
    rw [if_neg c7] at H
    have c7b0 : ((t262 == 0) != (decide (a0 ≤ 2199))) = false := by simpa using c7
    (try (have c7b1 : decide ((t262 == 0) = (decide (a0 ≤ 2199))) = true := by simpa using c7))
    (try (have c7b2 : ((t262 == 0) == (decide (a0 ≤ 2199))) = true := by simpa using c7))
    clear c7
    by_cases c8 : a0 ≤ 2199
    ·
     rw [if_pos c8] at H
     have c8b0 : decide (a0 ≤ 2199) = true := decide_eq_true c8
     clear c8
     have hz : t262 = 0 := by simpa [c8b0] using c7b2
     clear c7b0 c7b1 c7b2;subst hz
     by_cases c9 : a1 ≥ 1
     ·
      rw [if_pos c9] at H
      have c9b0 : decide (1 ≤ a1) = true := decide_eq_true c9
      clear c9;have H' := Aside0.mk H;clear H
      go_wp2
      go_meet
      case rel => exact ⟨_, (((t264 == 0) != (decide (a1 ≤ 12)))), (by first | rfl | (simp; done) | (simp [*]; done)), H', ⟨by first | omega | exact Nat.le_refl _⟩, ⟨by repeat (first | (with_reducible first | exact HB.out | apply below_alloc | apply pw_below_drewN | apply below_drew1) | exact HB.out)⟩⟩
     ·
      rw [if_neg c9] at H
      have c9b0 : decide (1 ≤ a1) = false := decide_eq_false c9
      clear c9;have H' := Aside0.mk H;clear H
      go_wp2
      go_meet
      case rel => exact ⟨_, (((t264 == 0) != false)), (by first | rfl | (simp; done) | (simp [*]; done)), H', ⟨by first | omega | exact Nat.le_refl _⟩, ⟨by repeat (first | (with_reducible first | exact HB.out | apply below_alloc | apply pw_below_drewN | apply below_drew1) | exact HB.out)⟩⟩
    ·
     rw [if_neg c8] at H
     have c8b0 : decide (a0 ≤ 2199) = false := decide_eq_false c8
     clear c8
     have hz : ¬ t262 = 0 := by simpa [c8b0] using c7b2
     clear c7b0 c7b1 c7b2
     have hz2 : (t262 == 0) = false := by simpa using hz
     have hz3 : decide (t262 = 0) = false := decide_eq_false hz
     have H' := Aside0.mk H;clear H
     go_wp2
     go_meet
     case rel => exact ⟨_, (((t264 == 0) != false)), (by first | rfl | (simp; done) | (simp [*]; done)), H', ⟨by first | omega | exact Nat.le_refl _⟩, ⟨by repeat (first | (with_reducible first | exact HB.out | apply below_alloc | apply pw_below_drewN | apply below_drew1) | exact HB.out)⟩⟩
  ·
   rw [if_neg c6] at H
   have c6b0 : decide (1900 ≤ a0) = false := decide_eq_false c6
   clear c6
   (first | rw [c6b0] | (simp only [i64_w, i32_w]; rw [c6b0]) | skip)
   by_cases c10 : ((t262 == 0) != false) = true
   ·
    rw [if_pos c10] at H
    have c10b0 : ((t262 == 0) != false) = true := c10
    (try (have c10b1 : decide ((t262 == 0) = false) = false := by simpa using c10))
    (try (have c10b2 : ((t262 == 0) == false) = false := by simpa using c10))
    (try (have c10b3 : ¬ ((t262 == 0) = false) := by simpa using c10))
    clear c10;have H' := Aside0.mk H;clear H
    go_wp2
    go_meet
    case rel => exact ⟨_, (true), (by first | rfl | (simp; done) | (simp [*]; done)), H', ⟨by first | omega | exact Nat.le_refl _⟩, ⟨by repeat (first | (with_reducible first | exact HB.out | apply below_alloc | apply pw_below_drewN | apply below_drew1) | exact HB.out)⟩⟩
   ·
    rw [if_neg c10] at H
    have c10b0 : ((t262 == 0) != false) = false := by simpa using c10
    (try (have c10b1 : decide ((t262 == 0) = false) = true := by simpa using c10))
    (try (have c10b2 : ((t262 == 0) == false) = true := by simpa using c10))
    clear c10;have H' := Aside0.mk H;clear H
    go_wp2
    go_meet
    case rel => exact ⟨_, (((t264 == 0) != false)), (by first | rfl | (simp; done) | (simp [*]; done)), H', ⟨by first | omega | exact Nat.le_refl _⟩, ⟨by repeat (first | (with_reducible first | exact HB.out | apply below_alloc | apply pw_below_drewN | apply below_drew1) | exact HB.out)⟩⟩
 case rest =>
  clear HC5
  obtain ⟨kq, x59_4, rfl, HA, HJ4, HB⟩ := hcut
  cases kq with
  | zero => exact absurd HA.out (by simp [tenorlaw5_DateEaster.j0])
  | succ kj4 =>
   have H := HA.out;clear HA
   simp only [tenorlaw5_DateEaster.j0] at H
   by_cases c11 : x59_4 = true
   ·
    subst c11
    have H1 : (some false) = some r := by rw [if_pos rfl] at H; exact H
    clear H;have H := H1;clear H1
    obtain rfl := Option.some.inj H
    go_wp2
    go_ret
    exact ⟨by first | rfl | (simp [errW_none, errW_some] <;> rfl) | (simp [*, errW_none, errW_some] <;> rfl), by repeat (first | (with_reducible first | exact HB.out | apply below_alloc | apply pw_below_drewN | apply below_drew1) | exact HB.out)⟩
   ·
    replace c11 := Bool.eq_false_iff.mpr c11;subst c11
    have H1 : (if t262 = 0 then ((date_Weekday.f t261).bind fun bt265 => ((date_Of.f kj4 a0 3 22).bind fun bt267 => ((date_Of.f kj4 a0 4 25).bind fun bt269 => (if bt265.1 = 6 then (if t261 < bt267.1 then (some false) else (if t261 > bt269.1 then (some false) else (tenorlaw5_DateEaster.j1 kj4 a0 a1 t263 t264))) else (some false))))) else (tenorlaw5_DateEaster.j1 kj4 a0 a1 t263 t264)) = some r := by rw [if_neg (show ¬ (false = true) by decide)] at H; exact H
    clear H;have H := H1;clear H1;have HC12 := Aside0.mk H;clear H
    go_upto_if 61 with (fail)
    go_cut [] (fun wc => ∃ (kq : Nat), Aside0 (tenorlaw5_DateEaster.j1 kq a0 a1 t263 t264 = some r) ∧ Aside0 (kq ≤ kj4) ∧ Aside0 (Below w.heap.size w wc))
    case first =>
     have H := HC12.out;clear HC12
     by_cases c13 : t262 = 0
     ·
      rw [if_pos c13] at H
      have c13b0 : (t262 == 0) = true := beq_iff_eq.mpr c13
      have c13b1 : (t262 != 0) = false := bne_eq_false_iff_eq.mpr c13
      clear c13
      (first | rw [c13b0] | (simp only [i64_w, i32_w]; rw [c13b0]) | skip)
      replace H := Option.bind_eq_some_iff.mp H
      obtain ⟨⟨t265, t266⟩, A140, H⟩ := H
      replace H : ((date_Of.f kj4 a0 3 22).bind fun bt267 => ((date_Of.f kj4 a0 4 25).bind fun bt269 => (if t265 = 6 then (if t261 < bt267.1 then (some false) else (if t261 > bt269.1 then (some false) else (tenorlaw5_DateEaster.j1 kj4 a0 a1 t263 t264))) else (some false)))) = some r := H
      have A14 := Aside0.mk A140;clear A140;replace H := Option.bind_eq_some_iff.mp H
      obtain ⟨⟨t267, t268⟩, A150, H⟩ := H
      replace H : ((date_Of.f kj4 a0 4 25).bind fun bt269 => (if t265 = 6 then (if t261 < t267 then (some false) else (if t261 > bt269.1 then (some false) else (tenorlaw5_DateEaster.j1 kj4 a0 a1 t263 t264))) else (some false))) = some r := H
      have A15 := Aside0.mk A150;clear A150;replace H := Option.bind_eq_some_iff.mp H
      obtain ⟨⟨t269, t270⟩, A160, H⟩ := H
      replace H : (if t265 = 6 then (if t261 < t267 then (some false) else (if t261 > t269 then (some false) else (tenorlaw5_DateEaster.j1 kj4 a0 a1 t263 t264))) else (some false)) = some r := H
      have A16 := Aside0.mk A160;clear A160
      by_cases c17 : t265 = 6
      ·
       rw [if_pos c17] at H
       have c17b0 : (t265 == 6) = true := beq_iff_eq.mpr c17
       have c17b1 : (t265 != 6) = false := bne_eq_false_iff_eq.mpr c17
       clear c17
       by_cases c18 : t261 < t267
       ·
        rw [if_pos c18] at H
        have c18b0 : decide (t261 < t267) = true := decide_eq_true c18
        clear c18
        obtain rfl := Option.some.inj H
        go_wp2_with (first | ((with_reducible refine gate_callee (f := 25) rfl ?_); refine goesL_ (some 64) rfl rfl Tryd.func25 (by kernel_rfl) rfl #[.int .i64 t261] rfl (by (try simp only [List.map_toArray, List.map_cons, List.map_nil]); first | done | rfl | (simp only [List.length_drop, List.length_take]; rfl)) ?_; (with_reducible refine (date_Weekday.calls t261 t265 t266 _ A14.out).mono ?_); rintro e w' ⟨rfl, ⟨nd, rfl⟩⟩; refine ⟨_, rfl, ?_⟩) | ((with_reducible refine gate_callee (f := 21) rfl ?_); refine goesL_ (some 69) rfl rfl Tryd.func21 (by kernel_rfl) rfl #[.int .i64 a0, .int .i64 3, .int .i64 22] rfl (by (try simp only [List.map_toArray, List.map_cons, List.map_nil]); first | done | rfl | (simp only [List.length_drop, List.length_take]; rfl)) ?_; (with_reducible refine (date_Of.calls kj4 a0 3 22 t267 t268 _ A15.out).mono ?_); rintro e w' ⟨rfl, ⟨nd, rfl⟩⟩; refine ⟨_, rfl, ?_⟩) | ((with_reducible refine gate_callee (f := 21) rfl ?_); refine goesL_ (some 74) rfl rfl Tryd.func21 (by kernel_rfl) rfl #[.int .i64 a0, .int .i64 4, .int .i64 25] rfl (by (try simp only [List.map_toArray, List.map_cons, List.map_nil]); first | done | rfl | (simp only [List.length_drop, List.length_take]; rfl)) ?_; (with_reducible refine (date_Of.calls kj4 a0 4 25 t269 t270 _ A16.out).mono ?_); rintro e w' ⟨rfl, ⟨nd, rfl⟩⟩; refine ⟨_, rfl, ?_⟩))
        go_ret
        exact ⟨by first | rfl | (simp [errW_none, errW_some] <;> rfl) | (simp [*, errW_none, errW_some] <;> rfl), by repeat (first | (with_reducible first | exact HB.out | apply below_alloc | apply pw_below_drewN | apply below_drew1) | exact HB.out)⟩
       ·
        rw [if_neg c18] at H
        have c18b0 : decide (t261 < t267) = false := decide_eq_false c18
        clear c18
        by_cases c19 : t261 > t269
        ·
         rw [if_pos c19] at H
         have c19b0 : decide (t269 < t261) = true := decide_eq_true c19
         clear c19
         obtain rfl := Option.some.inj H
         go_wp2_with (first | ((with_reducible refine gate_callee (f := 25) rfl ?_); refine goesL_ (some 64) rfl rfl Tryd.func25 (by kernel_rfl) rfl #[.int .i64 t261] rfl (by (try simp only [List.map_toArray, List.map_cons, List.map_nil]); first | done | rfl | (simp only [List.length_drop, List.length_take]; rfl)) ?_; (with_reducible refine (date_Weekday.calls t261 t265 t266 _ A14.out).mono ?_); rintro e w' ⟨rfl, ⟨nd, rfl⟩⟩; refine ⟨_, rfl, ?_⟩) | ((with_reducible refine gate_callee (f := 21) rfl ?_); refine goesL_ (some 69) rfl rfl Tryd.func21 (by kernel_rfl) rfl #[.int .i64 a0, .int .i64 3, .int .i64 22] rfl (by (try simp only [List.map_toArray, List.map_cons, List.map_nil]); first | done | rfl | (simp only [List.length_drop, List.length_take]; rfl)) ?_; (with_reducible refine (date_Of.calls kj4 a0 3 22 t267 t268 _ A15.out).mono ?_); rintro e w' ⟨rfl, ⟨nd, rfl⟩⟩; refine ⟨_, rfl, ?_⟩) | ((with_reducible refine gate_callee (f := 21) rfl ?_); refine goesL_ (some 74) rfl rfl Tryd.func21 (by kernel_rfl) rfl #[.int .i64 a0, .int .i64 4, .int .i64 25] rfl (by (try simp only [List.map_toArray, List.map_cons, List.map_nil]); first | done | rfl | (simp only [List.length_drop, List.length_take]; rfl)) ?_; (with_reducible refine (date_Of.calls kj4 a0 4 25 t269 t270 _ A16.out).mono ?_); rintro e w' ⟨rfl, ⟨nd, rfl⟩⟩; refine ⟨_, rfl, ?_⟩))
         go_ret
         exact ⟨by first | rfl | (simp [errW_none, errW_some] <;> rfl) | (simp [*, errW_none, errW_some] <;> rfl), by repeat (first | (with_reducible first | exact HB.out | apply below_alloc | apply pw_below_drewN | apply below_drew1) | exact HB.out)⟩
        ·
         rw [if_neg c19] at H
         have c19b0 : decide (t269 < t261) = false := decide_eq_false c19
         clear c19;have H' := Aside0.mk H;clear H
         go_wp2_with (first | ((with_reducible refine gate_callee (f := 25) rfl ?_); refine goesL_ (some 64) rfl rfl Tryd.func25 (by kernel_rfl) rfl #[.int .i64 t261] rfl (by (try simp only [List.map_toArray, List.map_cons, List.map_nil]); first | done | rfl | (simp only [List.length_drop, List.length_take]; rfl)) ?_; (with_reducible refine (date_Weekday.calls t261 t265 t266 _ A14.out).mono ?_); rintro e w' ⟨rfl, ⟨nd, rfl⟩⟩; refine ⟨_, rfl, ?_⟩) | ((with_reducible refine gate_callee (f := 21) rfl ?_); refine goesL_ (some 69) rfl rfl Tryd.func21 (by kernel_rfl) rfl #[.int .i64 a0, .int .i64 3, .int .i64 22] rfl (by (try simp only [List.map_toArray, List.map_cons, List.map_nil]); first | done | rfl | (simp only [List.length_drop, List.length_take]; rfl)) ?_; (with_reducible refine (date_Of.calls kj4 a0 3 22 t267 t268 _ A15.out).mono ?_); rintro e w' ⟨rfl, ⟨nd, rfl⟩⟩; refine ⟨_, rfl, ?_⟩) | ((with_reducible refine gate_callee (f := 21) rfl ?_); refine goesL_ (some 74) rfl rfl Tryd.func21 (by kernel_rfl) rfl #[.int .i64 a0, .int .i64 4, .int .i64 25] rfl (by (try simp only [List.map_toArray, List.map_cons, List.map_nil]); first | done | rfl | (simp only [List.length_drop, List.length_take]; rfl)) ?_; (with_reducible refine (date_Of.calls kj4 a0 4 25 t269 t270 _ A16.out).mono ?_); rintro e w' ⟨rfl, ⟨nd, rfl⟩⟩; refine ⟨_, rfl, ?_⟩))
         go_meet
         case rel => exact ⟨_, H', ⟨by have := HJ4.out; first | omega | exact Nat.le_refl _⟩, ⟨by repeat (first | (with_reducible first | exact HB.out | apply below_alloc | apply pw_below_drewN | apply below_drew1) | exact HB.out)⟩⟩
      ·
       rw [if_neg c17] at H
       have c17b0 : (t265 == 6) = false := beq_eq_false_iff_ne.mpr c17
       have c17b1 : (t265 != 6) = true := bne_iff_ne.mpr c17
       obtain rfl := Option.some.inj H
       go_wp2_with (first | ((with_reducible refine gate_callee (f := 25) rfl ?_); refine goesL_ (some 64) rfl rfl Tryd.func25 (by kernel_rfl) rfl #[.int .i64 t261] rfl (by (try simp only [List.map_toArray, List.map_cons, List.map_nil]); first | done | rfl | (simp only [List.length_drop, List.length_take]; rfl)) ?_; (with_reducible refine (date_Weekday.calls t261 t265 t266 _ A14.out).mono ?_); rintro e w' ⟨rfl, ⟨nd, rfl⟩⟩; refine ⟨_, rfl, ?_⟩) | ((with_reducible refine gate_callee (f := 21) rfl ?_); refine goesL_ (some 69) rfl rfl Tryd.func21 (by kernel_rfl) rfl #[.int .i64 a0, .int .i64 3, .int .i64 22] rfl (by (try simp only [List.map_toArray, List.map_cons, List.map_nil]); first | done | rfl | (simp only [List.length_drop, List.length_take]; rfl)) ?_; (with_reducible refine (date_Of.calls kj4 a0 3 22 t267 t268 _ A15.out).mono ?_); rintro e w' ⟨rfl, ⟨nd, rfl⟩⟩; refine ⟨_, rfl, ?_⟩) | ((with_reducible refine gate_callee (f := 21) rfl ?_); refine goesL_ (some 74) rfl rfl Tryd.func21 (by kernel_rfl) rfl #[.int .i64 a0, .int .i64 4, .int .i64 25] rfl (by (try simp only [List.map_toArray, List.map_cons, List.map_nil]); first | done | rfl | (simp only [List.length_drop, List.length_take]; rfl)) ?_; (with_reducible refine (date_Of.calls kj4 a0 4 25 t269 t270 _ A16.out).mono ?_); rintro e w' ⟨rfl, ⟨nd, rfl⟩⟩; refine ⟨_, rfl, ?_⟩))
       go_ret
       exact ⟨by first | rfl | (simp [errW_none, errW_some] <;> rfl) | (simp [*, errW_none, errW_some] <;> rfl), by repeat (first | (with_reducible first | exact HB.out | apply below_alloc | apply pw_below_drewN | apply below_drew1) | exact HB.out)⟩
     ·
      rw [if_neg c13] at H
      have c13b0 : (t262 == 0) = false := beq_eq_false_iff_ne.mpr c13
      have c13b1 : (t262 != 0) = true := bne_iff_ne.mpr c13
      (first | rw [c13b0] | (simp only [i64_w, i32_w]; rw [c13b0]) | skip)
      have H' := Aside0.mk H;clear H
      go_wp2
      go_meet
      case rel => exact ⟨_, H', ⟨by have := HJ4.out; first | omega | exact Nat.le_refl _⟩, ⟨by repeat (first | (with_reducible first | exact HB.out | apply below_alloc | apply pw_below_drewN | apply below_drew1) | exact HB.out)⟩⟩
    case rest =>
     clear HC12
     obtain ⟨kq, HA, HJ11, HB⟩ := hcut
     cases kq with
     | zero => exact absurd HA.out (by simp [tenorlaw5_DateEaster.j1])
     | succ kj11 =>
      have H := HA.out;clear HA
      simp only [tenorlaw5_DateEaster.j1] at H
      by_cases c20 : t264 = 0
      ·
       rw [if_pos c20] at H
       have c20b0 : (t264 == 0) = true := beq_iff_eq.mpr c20
       have c20b1 : (t264 != 0) = false := bne_eq_false_iff_eq.mpr c20
       clear c20;replace H := Option.bind_eq_some_iff.mp H
       obtain ⟨⟨t271, t272⟩, A210, H⟩ := H
       replace H : ((date_Civil.f kj11 t263).bind fun bt273 => (if t271 = 2 then (if bt273.1 = a0 then (if bt273.2.1 = a1 then (if bt273.2.2.1 < 15 then (some false) else (if bt273.2.2.1 > 21 then (some false) else ((tenorlaw5_awake.f kj11).bind fun t277 => (some t277)))) else (some false)) else (some false)) else (some false))) = some r := H
       have A21 := Aside0.mk A210;clear A210;replace H := Option.bind_eq_some_iff.mp H
       obtain ⟨⟨t273, t274, t275, t276⟩, A220, H⟩ := H
       replace H : (if t271 = 2 then (if t273 = a0 then (if t274 = a1 then (if t275 < 15 then (some false) else (if t275 > 21 then (some false) else ((tenorlaw5_awake.f kj11).bind fun t277 => (some t277)))) else (some false)) else (some false)) else (some false)) = some r := H
       have A22 := Aside0.mk A220;clear A220
       by_cases c23 : t271 = 2
       ·
        rw [if_pos c23] at H
        have c23b0 : (t271 == 2) = true := beq_iff_eq.mpr c23
        have c23b1 : (t271 != 2) = false := bne_eq_false_iff_eq.mpr c23
        clear c23
        by_cases c24 : t273 = a0
        ·
         rw [if_pos c24] at H
         have c24b0 : (t273 == a0) = true := beq_iff_eq.mpr c24
         have c24b1 : (t273 != a0) = false := bne_eq_false_iff_eq.mpr c24
         clear c24
         by_cases c25 : t274 = a1
         ·
          rw [if_pos c25] at H
          have c25b0 : (t274 == a1) = true := beq_iff_eq.mpr c25
          have c25b1 : (t274 != a1) = false := bne_eq_false_iff_eq.mpr c25
          clear c25
          by_cases c26 : t275 < 15
          ·
           rw [if_pos c26] at H
           have c26b0 : decide (t275 < 15) = true := decide_eq_true c26
           clear c26
           obtain rfl := Option.some.inj H
           go_wp2_with (first | ((with_reducible refine gate_callee (f := 25) rfl ?_); refine goesL_ (some 93) rfl rfl Tryd.func25 (by kernel_rfl) rfl #[.int .i64 t263] rfl (by (try simp only [List.map_toArray, List.map_cons, List.map_nil]); first | done | rfl | (simp only [List.length_drop, List.length_take]; rfl)) ?_; (with_reducible refine (date_Weekday.calls t263 t271 t272 _ A21.out).mono ?_); rintro e w' ⟨rfl, ⟨nd, rfl⟩⟩; refine ⟨_, rfl, ?_⟩) | ((with_reducible refine gate_callee (f := 23) rfl ?_); refine goesL_ (some 98) rfl rfl Tryd.func23 (by kernel_rfl) rfl #[.int .i64 t263] rfl (by (try simp only [List.map_toArray, List.map_cons, List.map_nil]); first | done | rfl | (simp only [List.length_drop, List.length_take]; rfl)) ?_; (with_reducible refine (date_Civil.calls kj11 t263 t273 t274 t275 t276 _ A22.out).mono ?_); rintro e w' ⟨rfl, ⟨nd, rfl⟩⟩; refine ⟨_, rfl, ?_⟩))
           go_ret
           exact ⟨by first | rfl | (simp [errW_none, errW_some] <;> rfl) | (simp [*, errW_none, errW_some] <;> rfl), by repeat (first | (with_reducible first | exact HB.out | apply below_alloc | apply pw_below_drewN | apply below_drew1) | exact HB.out)⟩
          ·
           rw [if_neg c26] at H
           have c26b0 : decide (t275 < 15) = false := decide_eq_false c26
           clear c26
           by_cases c27 : t275 > 21
           ·
            rw [if_pos c27] at H
            have c27b0 : decide (21 < t275) = true := decide_eq_true c27
            clear c27
            obtain rfl := Option.some.inj H
            go_wp2_with (first | ((with_reducible refine gate_callee (f := 25) rfl ?_); refine goesL_ (some 93) rfl rfl Tryd.func25 (by kernel_rfl) rfl #[.int .i64 t263] rfl (by (try simp only [List.map_toArray, List.map_cons, List.map_nil]); first | done | rfl | (simp only [List.length_drop, List.length_take]; rfl)) ?_; (with_reducible refine (date_Weekday.calls t263 t271 t272 _ A21.out).mono ?_); rintro e w' ⟨rfl, ⟨nd, rfl⟩⟩; refine ⟨_, rfl, ?_⟩) | ((with_reducible refine gate_callee (f := 23) rfl ?_); refine goesL_ (some 98) rfl rfl Tryd.func23 (by kernel_rfl) rfl #[.int .i64 t263] rfl (by (try simp only [List.map_toArray, List.map_cons, List.map_nil]); first | done | rfl | (simp only [List.length_drop, List.length_take]; rfl)) ?_; (with_reducible refine (date_Civil.calls kj11 t263 t273 t274 t275 t276 _ A22.out).mono ?_); rintro e w' ⟨rfl, ⟨nd, rfl⟩⟩; refine ⟨_, rfl, ?_⟩))
            go_ret
            exact ⟨by first | rfl | (simp [errW_none, errW_some] <;> rfl) | (simp [*, errW_none, errW_some] <;> rfl), by repeat (first | (with_reducible first | exact HB.out | apply below_alloc | apply pw_below_drewN | apply below_drew1) | exact HB.out)⟩
           ·
            rw [if_neg c27] at H
            have c27b0 : decide (21 < t275) = false := decide_eq_false c27
            clear c27;replace H := Option.bind_eq_some_iff.mp H
            obtain ⟨t277, A280, H⟩ := H
            replace H : (some t277) = some r := H
            have A28 := Aside0.mk A280;clear A280
            obtain rfl := Option.some.inj H
            go_wp2_with (first | ((with_reducible refine gate_callee (f := 25) rfl ?_); refine goesL_ (some 93) rfl rfl Tryd.func25 (by kernel_rfl) rfl #[.int .i64 t263] rfl (by (try simp only [List.map_toArray, List.map_cons, List.map_nil]); first | done | rfl | (simp only [List.length_drop, List.length_take]; rfl)) ?_; (with_reducible refine (date_Weekday.calls t263 t271 t272 _ A21.out).mono ?_); rintro e w' ⟨rfl, ⟨nd, rfl⟩⟩; refine ⟨_, rfl, ?_⟩) | ((with_reducible refine gate_callee (f := 23) rfl ?_); refine goesL_ (some 98) rfl rfl Tryd.func23 (by kernel_rfl) rfl #[.int .i64 t263] rfl (by (try simp only [List.map_toArray, List.map_cons, List.map_nil]); first | done | rfl | (simp only [List.length_drop, List.length_take]; rfl)) ?_; (with_reducible refine (date_Civil.calls kj11 t263 t273 t274 t275 t276 _ A22.out).mono ?_); rintro e w' ⟨rfl, ⟨nd, rfl⟩⟩; refine ⟨_, rfl, ?_⟩) | ((with_reducible refine gate_callee (f := 14) rfl ?_); refine goesL_ (some 123) rfl rfl Tryd.func14 (by kernel_rfl) rfl #[] rfl (by (try simp only [List.map_toArray, List.map_cons, List.map_nil]); first | done | rfl | (simp only [List.length_drop, List.length_take]; rfl)) ?_; (with_reducible refine (tenorlaw5_awake.calls kj11  t277 _ A28.out).mono ?_); rintro e w29 ⟨rfl, hb⟩; refine ⟨_, rfl, ?_⟩; have n0_ := Aside0.mk (below_step (by repeat (first | (with_reducible first | exact HB.out | apply below_alloc | apply pw_below_drewN | apply below_drew1) | exact HB.out)) hb); clear HB; have HB := n0_; clear n0_; (try clear hb); (try clear hb2); (try clear hk); (try clear hi)))
            go_ret
            exact ⟨by first | rfl | (simp [errW_none, errW_some] <;> rfl) | (simp [*, errW_none, errW_some] <;> rfl), by repeat (first | (with_reducible first | exact HB.out | apply below_alloc | apply pw_below_drewN | apply below_drew1) | exact HB.out)⟩
         ·
          rw [if_neg c25] at H
          have c25b0 : (t274 == a1) = false := beq_eq_false_iff_ne.mpr c25
          have c25b1 : (t274 != a1) = true := bne_iff_ne.mpr c25
          obtain rfl := Option.some.inj H
          go_wp2_with (first | ((with_reducible refine gate_callee (f := 25) rfl ?_); refine goesL_ (some 93) rfl rfl Tryd.func25 (by kernel_rfl) rfl #[.int .i64 t263] rfl (by (try simp only [List.map_toArray, List.map_cons, List.map_nil]); first | done | rfl | (simp only [List.length_drop, List.length_take]; rfl)) ?_; (with_reducible refine (date_Weekday.calls t263 t271 t272 _ A21.out).mono ?_); rintro e w' ⟨rfl, ⟨nd, rfl⟩⟩; refine ⟨_, rfl, ?_⟩) | ((with_reducible refine gate_callee (f := 23) rfl ?_); refine goesL_ (some 98) rfl rfl Tryd.func23 (by kernel_rfl) rfl #[.int .i64 t263] rfl (by (try simp only [List.map_toArray, List.map_cons, List.map_nil]); first | done | rfl | (simp only [List.length_drop, List.length_take]; rfl)) ?_; (with_reducible refine (date_Civil.calls kj11 t263 t273 t274 t275 t276 _ A22.out).mono ?_); rintro e w' ⟨rfl, ⟨nd, rfl⟩⟩; refine ⟨_, rfl, ?_⟩))
          go_ret
          exact ⟨by first | rfl | (simp [errW_none, errW_some] <;> rfl) | (simp [*, errW_none, errW_some] <;> rfl), by repeat (first | (with_reducible first | exact HB.out | apply below_alloc | apply pw_below_drewN | apply below_drew1) | exact HB.out)⟩
        ·
         rw [if_neg c24] at H
         have c24b0 : (t273 == a0) = false := beq_eq_false_iff_ne.mpr c24
         have c24b1 : (t273 != a0) = true := bne_iff_ne.mpr c24
         obtain rfl := Option.some.inj H
         go_wp2_with (first | ((with_reducible refine gate_callee (f := 25) rfl ?_); refine goesL_ (some 93) rfl rfl Tryd.func25 (by kernel_rfl) rfl #[.int .i64 t263] rfl (by (try simp only [List.map_toArray, List.map_cons, List.map_nil]); first | done | rfl | (simp only [List.length_drop, List.length_take]; rfl)) ?_; (with_reducible refine (date_Weekday.calls t263 t271 t272 _ A21.out).mono ?_); rintro e w' ⟨rfl, ⟨nd, rfl⟩⟩; refine ⟨_, rfl, ?_⟩) | ((with_reducible refine gate_callee (f := 23) rfl ?_); refine goesL_ (some 98) rfl rfl Tryd.func23 (by kernel_rfl) rfl #[.int .i64 t263] rfl (by (try simp only [List.map_toArray, List.map_cons, List.map_nil]); first | done | rfl | (simp only [List.length_drop, List.length_take]; rfl)) ?_; (with_reducible refine (date_Civil.calls kj11 t263 t273 t274 t275 t276 _ A22.out).mono ?_); rintro e w' ⟨rfl, ⟨nd, rfl⟩⟩; refine ⟨_, rfl, ?_⟩))
         go_ret
         exact ⟨by first | rfl | (simp [errW_none, errW_some] <;> rfl) | (simp [*, errW_none, errW_some] <;> rfl), by repeat (first | (with_reducible first | exact HB.out | apply below_alloc | apply pw_below_drewN | apply below_drew1) | exact HB.out)⟩
       ·
        rw [if_neg c23] at H
        have c23b0 : (t271 == 2) = false := beq_eq_false_iff_ne.mpr c23
        have c23b1 : (t271 != 2) = true := bne_iff_ne.mpr c23
        obtain rfl := Option.some.inj H
        go_wp2_with (first | ((with_reducible refine gate_callee (f := 25) rfl ?_); refine goesL_ (some 93) rfl rfl Tryd.func25 (by kernel_rfl) rfl #[.int .i64 t263] rfl (by (try simp only [List.map_toArray, List.map_cons, List.map_nil]); first | done | rfl | (simp only [List.length_drop, List.length_take]; rfl)) ?_; (with_reducible refine (date_Weekday.calls t263 t271 t272 _ A21.out).mono ?_); rintro e w' ⟨rfl, ⟨nd, rfl⟩⟩; refine ⟨_, rfl, ?_⟩) | ((with_reducible refine gate_callee (f := 23) rfl ?_); refine goesL_ (some 98) rfl rfl Tryd.func23 (by kernel_rfl) rfl #[.int .i64 t263] rfl (by (try simp only [List.map_toArray, List.map_cons, List.map_nil]); first | done | rfl | (simp only [List.length_drop, List.length_take]; rfl)) ?_; (with_reducible refine (date_Civil.calls kj11 t263 t273 t274 t275 t276 _ A22.out).mono ?_); rintro e w' ⟨rfl, ⟨nd, rfl⟩⟩; refine ⟨_, rfl, ?_⟩))
        go_ret
        exact ⟨by first | rfl | (simp [errW_none, errW_some] <;> rfl) | (simp [*, errW_none, errW_some] <;> rfl), by repeat (first | (with_reducible first | exact HB.out | apply below_alloc | apply pw_below_drewN | apply below_drew1) | exact HB.out)⟩
      ·
       rw [if_neg c20] at H
       have c20b0 : (t264 == 0) = false := beq_eq_false_iff_ne.mpr c20
       have c20b1 : (t264 != 0) = true := bne_iff_ne.mpr c20
       replace H := Option.bind_eq_some_iff.mp H
       obtain ⟨t278, A300, H⟩ := H
       replace H : (some t278) = some r := H
       have A30 := Aside0.mk A300;clear A300
       obtain rfl := Option.some.inj H
       go_wp2_with (first | ((with_reducible refine gate_callee (f := 14) rfl ?_); refine goesL_ (some 123) rfl rfl Tryd.func14 (by kernel_rfl) rfl #[] rfl (by (try simp only [List.map_toArray, List.map_cons, List.map_nil]); first | done | rfl | (simp only [List.length_drop, List.length_take]; rfl)) ?_; (with_reducible refine (tenorlaw5_awake.calls kj11  t278 _ A30.out).mono ?_); rintro e w31 ⟨rfl, hb⟩; refine ⟨_, rfl, ?_⟩; have n0_ := Aside0.mk (below_step (by repeat (first | (with_reducible first | exact HB.out | apply below_alloc | apply pw_below_drewN | apply below_drew1) | exact HB.out)) hb); clear HB; have HB := n0_; clear n0_; (try clear hb); (try clear hb2); (try clear hk); (try clear hi)))
       go_ret
       exact ⟨by first | rfl | (simp [errW_none, errW_some] <;> rfl) | (simp [*, errW_none, errW_some] <;> rfl), by repeat (first | (with_reducible first | exact HB.out | apply below_alloc | apply pw_below_drewN | apply below_drew1) | exact HB.out)⟩
end Go.Proofs.YtoncignjcgjhhaaDoor.Q
