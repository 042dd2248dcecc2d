/- Contracts of functions of the seat's program: each Go function's Lean function and its walk, written by a program of this session over the kit's print. Not trusted: Lean checks it. -/
import Derived.Test.YtoncignjcgjhhaaDoorZGA
import Derived.Test.YtoncignjcgjhhaaDoorZGB
import Derived.Test.YtoncignjcgjhhaaDoorZQx15
import Derived.Test.YtoncignjcgjhhaaDoorZQx17
import Derived.Test.YtoncignjcgjhhaaDoorZV
set_option linter.unusedVariables false
set_option linter.unusedSimpArgs false
namespace Go.Proofs.YtoncignjcgjhhaaDoor.Q
open Go.RowKit Go.Proofs.YtoncignjcgjhhaaDoorW.PrintWords Go.Proofs.YtoncignjcgjhhaaDoorW.PrintLast Go.Proofs.YtoncignjcgjhhaaDoorW.PrintMore
attribute [local go_sem] max2_int min2_int max_two min_two max_three min_three max_four min_four   -- for this text's walks alone
mutual
def tenorlaw5_DateMoves.j0 : Nat → Int → Int → Bool → Option (Bool)
  | 0, _, _, _ => none
  | k + 1, x0, x1, x42 => if x42 = true then (some false) else ((date_Civil.f k x0).bind fun bt243 => ((date_Months.f k x0 x1 false).bind fun bt247 => (if bt247.2 = 0 then (tenorlaw5_DateMoves.j1 k x0 x1 bt243.1 bt243.2.1 bt243.2.2.1 bt247.1 bt247.2 (decide (bt243.2.2.1 ≤ 28))) else (tenorlaw5_DateMoves.j1 k x0 x1 bt243.1 bt243.2.1 bt243.2.2.1 bt247.1 bt247.2 false))))
def tenorlaw5_DateMoves.j1 : Nat → Int → Int → Int → Int → Int → Int → Int → Bool → Option (Bool)
  | 0, _, _, _, _, _, _, _, _ => none
  | k + 1, x0, x1, x7, x8, x9, x11, x12, x61 => if x61 = true then ((date_Months.f k x11 (wrap64 (-x1)) false).bind fun bt249 => (if bt249.2 = 0 then (if bt249.1 = x0 then (tenorlaw5_DateMoves.j2 k x0 x1 x7 x8 x9 x11 x12) else (some false)) else (some false))) else (tenorlaw5_DateMoves.j2 k x0 x1 x7 x8 x9 x11 x12)
def tenorlaw5_DateMoves.j2 : Nat → Int → Int → Int → Int → Int → Int → Int → Option (Bool)
  | 0, _, _, _, _, _, _, _ => none
  | k + 1, x0, x1, x7, x8, x9, x11, x12 => if x12 = 0 then ((date_Civil.f k x11).bind fun bt251 => ((date_Length.f bt251.1 bt251.2.1).bind fun bt255 => (if x1 > 4000 then (some false) else (if x1 < (-4000) then (some false) else (if (wrap64 ((wrap64 (12 * bt251.1)) + bt251.2.1)) = (wrap64 ((wrap64 ((wrap64 (12 * x7)) + x8)) + x1)) then (if bt251.2.2.1 = (mn x9 bt255.1) then (tenorlaw5_DateMoves.j3 k x0 x7) else (some false)) else (some false)))))) else (tenorlaw5_DateMoves.j3 k x0 x7)
def tenorlaw5_DateMoves.j3 : Nat → Int → Int → Option (Bool)
  | 0, _, _ => none
  | k + 1, x0, x7 => if x7 ≥ 1901 then (tenorlaw5_DateMoves.j4 k x0 (decide ((wrap64 (x7 + 28)) ≤ 2099))) else (tenorlaw5_DateMoves.j4 k x0 false)
def tenorlaw5_DateMoves.j4 : Nat → Int → Bool → Option (Bool)
  | 0, _, _ => none
  | k + 1, x0, x123 => if x123 = true then ((date_Months.f k x0 336 false).bind fun bt257 => (if bt257.2 = 0 then (if (wrap64 (bt257.1 - x0)) = 10227 then (if (Int.tmod (wrap64 (bt257.1 - x0)) 7) = 0 then ((tenorlaw5_awake.f k).bind fun t259 => (some t259)) else (some false)) else (some false)) else (some false))) else ((tenorlaw5_awake.f k).bind fun t260 => (some t260))
end
def tenorlaw5_DateMoves.f (k : Nat) (a0 : Int) (a1 : Int) : Option (Bool) := (date_Months.f k a0 0 false).bind fun bt239 => ((tenorlaw5_isDay.f a0).bind fun t241 => (if t241 = true then (if bt239.2 = 0 then (tenorlaw5_DateMoves.j0 k a0 a1 (bt239.1 != a0)) else (tenorlaw5_DateMoves.j0 k a0 a1 true)) else (if bt239.2 = 51 then ((tenorlaw5_awake.f k).bind fun t242 => (some t242)) else (some false))))
theorem tenorlaw5_DateMoves.mono_l : ∀ k, (∀ y0 y1 y2, LeO (tenorlaw5_DateMoves.j0 k y0 y1 y2) (tenorlaw5_DateMoves.j0 (k + 1) y0 y1 y2)) ∧ (∀ y0 y1 y2 y3 y4 y5 y6 y7, LeO (tenorlaw5_DateMoves.j1 k y0 y1 y2 y3 y4 y5 y6 y7) (tenorlaw5_DateMoves.j1 (k + 1) y0 y1 y2 y3 y4 y5 y6 y7)) ∧ (∀ y0 y1 y2 y3 y4 y5 y6, LeO (tenorlaw5_DateMoves.j2 k y0 y1 y2 y3 y4 y5 y6) (tenorlaw5_DateMoves.j2 (k + 1) y0 y1 y2 y3 y4 y5 y6)) ∧ (∀ y0 y1, LeO (tenorlaw5_DateMoves.j3 k y0 y1) (tenorlaw5_DateMoves.j3 (k + 1) y0 y1)) ∧ (∀ y0 y1, LeO (tenorlaw5_DateMoves.j4 k y0 y1) (tenorlaw5_DateMoves.j4 (k + 1) y0 y1))
 | 0 => ⟨fun _ _ _ r h => by simp [tenorlaw5_DateMoves.j0] at h, fun _ _ _ _ _ _ _ _ r h => by simp [tenorlaw5_DateMoves.j1] at h, fun _ _ _ _ _ _ _ r h => by simp [tenorlaw5_DateMoves.j2] at h, fun _ _ r h => by simp [tenorlaw5_DateMoves.j3] at h, fun _ _ r h => by simp [tenorlaw5_DateMoves.j4] at h⟩
 | k + 1 => by
  obtain ⟨ih0, ih1, ih2, ih3, ih4⟩ := tenorlaw5_DateMoves.mono_l k
  refine ⟨?_, ?_, ?_, ?_, ?_⟩
  ·
   intro y0 y1 y2
   unfold tenorlaw5_DateMoves.j0
   repeat' first
   | (with_reducible exact ih0 _ _ _)
   | (with_reducible exact ih1 _ _ _ _ _ _ _ _)
   | (with_reducible exact ih2 _ _ _ _ _ _ _)
   | (with_reducible exact ih3 _ _)
   | (with_reducible exact ih4 _ _)
   | (with_reducible exact date_Civil.mono _ _)
   | (with_reducible exact date_Months.mono _ _ _ _)
   | (with_reducible exact tenorlaw5_awake.mono _)
   | (with_reducible exact LeO.refl _)
   | (with_reducible exact LeO.none _)
   | (with_reducible refine LeO.ite ?_ ?_)
   | (with_reducible refine LeO.bind ?_ (fun _ => ?_))
   | exact ih0 _ _ _
   | exact ih1 _ _ _ _ _ _ _ _
   | exact ih2 _ _ _ _ _ _ _
   | exact ih3 _ _
   | exact ih4 _ _
   | exact date_Civil.mono _ _
   | exact date_Months.mono _ _ _ _
   | exact tenorlaw5_awake.mono _
   | exact LeO.none _
   | refine LeO.ite ?_ ?_
   | refine LeO.bind ?_ (fun _ => ?_)
  ·
   intro y0 y1 y2 y3 y4 y5 y6 y7
   unfold tenorlaw5_DateMoves.j1
   repeat' first
   | (with_reducible exact ih0 _ _ _)
   | (with_reducible exact ih1 _ _ _ _ _ _ _ _)
   | (with_reducible exact ih2 _ _ _ _ _ _ _)
   | (with_reducible exact ih3 _ _)
   | (with_reducible exact ih4 _ _)
   | (with_reducible exact date_Civil.mono _ _)
   | (with_reducible exact date_Months.mono _ _ _ _)
   | (with_reducible exact tenorlaw5_awake.mono _)
   | (with_reducible exact LeO.refl _)
   | (with_reducible exact LeO.none _)
   | (with_reducible refine LeO.ite ?_ ?_)
   | (with_reducible refine LeO.bind ?_ (fun _ => ?_))
   | exact ih0 _ _ _
   | exact ih1 _ _ _ _ _ _ _ _
   | exact ih2 _ _ _ _ _ _ _
   | exact ih3 _ _
   | exact ih4 _ _
   | exact date_Civil.mono _ _
   | exact date_Months.mono _ _ _ _
   | exact tenorlaw5_awake.mono _
   | exact LeO.none _
   | refine LeO.ite ?_ ?_
   | refine LeO.bind ?_ (fun _ => ?_)
  ·
   intro y0 y1 y2 y3 y4 y5 y6
   unfold tenorlaw5_DateMoves.j2
   repeat' first
   | (with_reducible exact ih0 _ _ _)
   | (with_reducible exact ih1 _ _ _ _ _ _ _ _)
   | (with_reducible exact ih2 _ _ _ _ _ _ _)
   | (with_reducible exact ih3 _ _)
   | (with_reducible exact ih4 _ _)
   | (with_reducible exact date_Civil.mono _ _)
   | (with_reducible exact date_Months.mono _ _ _ _)
   | (with_reducible exact tenorlaw5_awake.mono _)
   | (with_reducible exact LeO.refl _)
   | (with_reducible exact LeO.none _)
   | (with_reducible refine LeO.ite ?_ ?_)
   | (with_reducible refine LeO.bind ?_ (fun _ => ?_))
   | exact ih0 _ _ _
   | exact ih1 _ _ _ _ _ _ _ _
   | exact ih2 _ _ _ _ _ _ _
   | exact ih3 _ _
   | exact ih4 _ _
   | exact date_Civil.mono _ _
   | exact date_Months.mono _ _ _ _
   | exact tenorlaw5_awake.mono _
   | exact LeO.none _
   | refine LeO.ite ?_ ?_
   | refine LeO.bind ?_ (fun _ => ?_)
  ·
   intro y0 y1
   unfold tenorlaw5_DateMoves.j3
   repeat' first
   | (with_reducible exact ih0 _ _ _)
   | (with_reducible exact ih1 _ _ _ _ _ _ _ _)
   | (with_reducible exact ih2 _ _ _ _ _ _ _)
   | (with_reducible exact ih3 _ _)
   | (with_reducible exact ih4 _ _)
   | (with_reducible exact date_Civil.mono _ _)
   | (with_reducible exact date_Months.mono _ _ _ _)
   | (with_reducible exact tenorlaw5_awake.mono _)
   | (with_reducible exact LeO.refl _)
   | (with_reducible exact LeO.none _)
   | (with_reducible refine LeO.ite ?_ ?_)
   | (with_reducible refine LeO.bind ?_ (fun _ => ?_))
   | exact ih0 _ _ _
   | exact ih1 _ _ _ _ _ _ _ _
   | exact ih2 _ _ _ _ _ _ _
   | exact ih3 _ _
   | exact ih4 _ _
   | exact date_Civil.mono _ _
   | exact date_Months.mono _ _ _ _
   | exact tenorlaw5_awake.mono _
   | exact LeO.none _
   | refine LeO.ite ?_ ?_
   | refine LeO.bind ?_ (fun _ => ?_)
  ·
   intro y0 y1
   unfold tenorlaw5_DateMoves.j4
   repeat' first
   | (with_reducible exact ih0 _ _ _)
   | (with_reducible exact ih1 _ _ _ _ _ _ _ _)
   | (with_reducible exact ih2 _ _ _ _ _ _ _)
   | (with_reducible exact ih3 _ _)
   | (with_reducible exact ih4 _ _)
   | (with_reducible exact date_Civil.mono _ _)
   | (with_reducible exact date_Months.mono _ _ _ _)
   | (with_reducible exact tenorlaw5_awake.mono _)
   | (with_reducible exact LeO.refl _)
   | (with_reducible exact LeO.none _)
   | (with_reducible refine LeO.ite ?_ ?_)
   | (with_reducible refine LeO.bind ?_ (fun _ => ?_))
   | exact ih0 _ _ _
   | exact ih1 _ _ _ _ _ _ _ _
   | exact ih2 _ _ _ _ _ _ _
   | exact ih3 _ _
   | exact ih4 _ _
   | exact date_Civil.mono _ _
   | exact date_Months.mono _ _ _ _
   | exact tenorlaw5_awake.mono _
   | exact LeO.none _
   | refine LeO.ite ?_ ?_
   | refine LeO.bind ?_ (fun _ => ?_)
theorem tenorlaw5_DateMoves.mono : ∀ a0 a1 k, LeO (tenorlaw5_DateMoves.f k a0 a1) (tenorlaw5_DateMoves.f (k + 1) a0 a1) := by
 intro a0 a1 k
 obtain ⟨ih0, ih1, ih2, ih3, ih4⟩ := tenorlaw5_DateMoves.mono_l k
 unfold tenorlaw5_DateMoves.f
 repeat' first
   | (with_reducible exact ih0 _ _ _)
   | (with_reducible exact ih1 _ _ _ _ _ _ _ _)
   | (with_reducible exact ih2 _ _ _ _ _ _ _)
   | (with_reducible exact ih3 _ _)
   | (with_reducible exact ih4 _ _)
   | (with_reducible exact date_Civil.mono _ _)
   | (with_reducible exact date_Months.mono _ _ _ _)
   | (with_reducible exact tenorlaw5_awake.mono _)
   | (with_reducible exact LeO.refl _)
   | (with_reducible exact LeO.none _)
   | (with_reducible refine LeO.ite ?_ ?_)
   | (with_reducible refine LeO.bind ?_ (fun _ => ?_))
   | exact ih0 _ _ _
   | exact ih1 _ _ _ _ _ _ _ _
   | exact ih2 _ _ _ _ _ _ _
   | exact ih3 _ _
   | exact ih4 _ _
   | exact date_Civil.mono _ _
   | exact date_Months.mono _ _ _ _
   | exact tenorlaw5_awake.mono _
   | exact LeO.none _
   | refine LeO.ite ?_ ?_
   | refine LeO.bind ?_ (fun _ => ?_)
set_option maxHeartbeats 8000000 in
set_option maxRecDepth 100000 in
theorem tenorlaw5_DateMoves.calls (k : Nat) (a0 : Int) (a1 : Int) (r : Bool) (w : World) (h : tenorlaw5_DateMoves.f k a0 a1 = some r) :
  Calls Tryd.prog 9 #[.int .i64 a0, .int .i64 a1] w fun e w' => e = .returned (.bool r) ∧ Below w.heap.size w w' := by
 have HB := Aside0.mk (Below.refl w.heap.size w)
 have H : ((date_Months.f k a0 0 false).bind fun bt239 => ((tenorlaw5_isDay.f a0).bind fun t241 => (if t241 = true then (if bt239.2 = 0 then (tenorlaw5_DateMoves.j0 k a0 a1 (bt239.1 != a0)) else (tenorlaw5_DateMoves.j0 k a0 a1 true)) else (if bt239.2 = 51 then ((tenorlaw5_awake.f k).bind fun t242 => (some t242)) else (some false))))) = some r := h
 clear h;replace H := Option.bind_eq_some_iff.mp H
 obtain ⟨⟨t239, t240⟩, A30, H⟩ := H
 replace H : ((tenorlaw5_isDay.f a0).bind fun t241 => (if t241 = true then (if t240 = 0 then (tenorlaw5_DateMoves.j0 k a0 a1 (t239 != a0)) else (tenorlaw5_DateMoves.j0 k a0 a1 true)) else (if t240 = 51 then ((tenorlaw5_awake.f k).bind fun t242 => (some t242)) else (some false)))) = some r := H
 have A3 := Aside0.mk A30;clear A30;replace H := Option.bind_eq_some_iff.mp H
 obtain ⟨t241, A40, H⟩ := H
 replace H : (if t241 = true then (if t240 = 0 then (tenorlaw5_DateMoves.j0 k a0 a1 (t239 != a0)) else (tenorlaw5_DateMoves.j0 k a0 a1 true)) else (if t240 = 51 then ((tenorlaw5_awake.f k).bind fun t242 => (some t242)) else (some false))) = some r := H
 have A4 := Aside0.mk A40;clear A40
 by_cases c5 : t241 = true
 ·
  subst c5
  have H1 : (if t240 = 0 then (tenorlaw5_DateMoves.j0 k a0 a1 (t239 != a0)) else (tenorlaw5_DateMoves.j0 k a0 a1 true)) = some r := by rw [if_pos rfl] at H; exact H
  clear H;have H := H1;clear H1;have HC6 := Aside0.mk H;clear H
  go_enter Tryd.func9, Tryd.ntmps9
  go_upto_region 4 with (first | ((with_reducible refine gate_callee (f := 29) rfl ?_); refine goesL_ (some 25) rfl rfl Tryd.func29 (by kernel_rfl) rfl #[.int .i64 a0, .int .i64 0, .bool false] rfl (by (try simp only [List.map_toArray, List.map_cons, List.map_nil]); first | done | rfl | (simp only [List.length_drop, List.length_take]; rfl)) ?_; (with_reducible refine (date_Months.calls k a0 0 false t239 t240 _ A3.out).mono ?_); rintro e w' ⟨rfl, ⟨nd, rfl⟩⟩; refine ⟨_, rfl, ?_⟩) | ((with_reducible refine gate_callee (f := 31) rfl ?_); refine goesL_ (some 29) rfl rfl Tryd.func31 (by kernel_rfl) rfl #[.int .i64 a0] rfl (by (try simp only [List.map_toArray, List.map_cons, List.map_nil]); first | done | rfl | (simp only [List.length_drop, List.length_take]; rfl)) ?_; (with_reducible refine (tenorlaw5_isDay.calls a0 true _ A4.out).mono ?_); rintro e w' ⟨rfl, ⟨nd, rfl⟩⟩; refine ⟨_, rfl, ?_⟩))
  (try simp only [Act.put, List.setIfInBounds_toArray, List.set_cons_zero, List.set_cons_succ])
  go_cut [42] (fun v42 wc => ∃ (kq : Nat) (x42_5 : Bool), v42 = .bool x42_5 ∧ Aside0 (tenorlaw5_DateMoves.j0 kq a0 a1 x42_5 = some r) ∧ Aside0 (kq ≤ k) ∧ Aside0 (Below w.heap.size w wc))
  case first =>
   have H := HC6.out;clear HC6
   by_cases c7 : t240 = 0
   ·
    rw [if_pos c7] at H
    have c7b0 : (t240 == 0) = true := beq_iff_eq.mpr c7
    have c7b1 : (t240 != 0) = false := bne_eq_false_iff_eq.mpr c7
    clear c7
    (first | rw [c7b0] | (simp only [i64_w, i32_w]; rw [c7b0]) | skip)
    have H' := Aside0.mk H;clear H
    go_wp2
    go_meet
    case rel => exact ⟨_, ((t239 != a0)), (by first | rfl | (simp; done) | (simp [*]; done)), H', ⟨by first | omega | exact Nat.le_refl _⟩, ⟨by repeat (first | (with_reducible first | exact HB.out | apply below_alloc | apply pw_below_drewN | apply below_drew1) | exact HB.out)⟩⟩
   ·
    rw [if_neg c7] at H
    have c7b0 : (t240 == 0) = false := beq_eq_false_iff_ne.mpr c7
    have c7b1 : (t240 != 0) = true := bne_iff_ne.mpr c7
    (first | rw [c7b0] | (simp only [i64_w, i32_w]; rw [c7b0]) | skip)
    have H' := Aside0.mk H;clear H
    go_wp2
    go_meet
    case rel => exact ⟨_, (true), (by first | rfl | (simp; done) | (simp [*]; done)), H', ⟨by first | omega | exact Nat.le_refl _⟩, ⟨by repeat (first | (with_reducible first | exact HB.out | apply below_alloc | apply pw_below_drewN | apply below_drew1) | exact HB.out)⟩⟩
  case rest =>
   clear HC6
   obtain ⟨kq, x42_5, rfl, HA, HJ5, HB⟩ := hcut
   cases kq with
   | zero => exact absurd HA.out (by simp [tenorlaw5_DateMoves.j0])
   | succ kj5 =>
    have H := HA.out;clear HA
    simp only [tenorlaw5_DateMoves.j0] at H
    by_cases c8 : x42_5 = true
    ·
     subst c8
     have H1 : (some false) = some r := by rw [if_pos rfl] at H; exact H
     clear H;have H := H1;clear H1
     obtain rfl := Option.some.inj H
     go_wp2
     go_ret
     exact ⟨by first | rfl | (simp [errW_none, errW_some] <;> rfl) | (simp [*, errW_none, errW_some] <;> rfl), by repeat (first | (with_reducible first | exact HB.out | apply below_alloc | apply pw_below_drewN | apply below_drew1) | exact HB.out)⟩
    ·
     replace c8 := Bool.eq_false_iff.mpr c8;subst c8
     have H1 : ((date_Civil.f kj5 a0).bind fun bt243 => ((date_Months.f kj5 a0 a1 false).bind fun bt247 => (if bt247.2 = 0 then (tenorlaw5_DateMoves.j1 kj5 a0 a1 bt243.1 bt243.2.1 bt243.2.2.1 bt247.1 bt247.2 (decide (bt243.2.2.1 ≤ 28))) else (tenorlaw5_DateMoves.j1 kj5 a0 a1 bt243.1 bt243.2.1 bt243.2.2.1 bt247.1 bt247.2 false)))) = some r := by rw [if_neg (show ¬ (false = true) by decide)] at H; exact H
     clear H;have H := H1;clear H1;replace H := Option.bind_eq_some_iff.mp H
     obtain ⟨⟨t243, t244, t245, t246⟩, A90, H⟩ := H
     replace H : ((date_Months.f kj5 a0 a1 false).bind fun bt247 => (if bt247.2 = 0 then (tenorlaw5_DateMoves.j1 kj5 a0 a1 t243 t244 t245 bt247.1 bt247.2 (decide (t245 ≤ 28))) else (tenorlaw5_DateMoves.j1 kj5 a0 a1 t243 t244 t245 bt247.1 bt247.2 false))) = some r := H
     have A9 := Aside0.mk A90;clear A90;replace H := Option.bind_eq_some_iff.mp H
     obtain ⟨⟨t247, t248⟩, A100, H⟩ := H
     replace H : (if t248 = 0 then (tenorlaw5_DateMoves.j1 kj5 a0 a1 t243 t244 t245 t247 t248 (decide (t245 ≤ 28))) else (tenorlaw5_DateMoves.j1 kj5 a0 a1 t243 t244 t245 t247 t248 false)) = some r := H
     have A10 := Aside0.mk A100;clear A100;have HC11 := Aside0.mk H;clear H
     go_upto_region 8 with (first | ((with_reducible refine gate_callee (f := 23) rfl ?_); refine goesL_ (some 45) rfl rfl Tryd.func23 (by kernel_rfl) rfl #[.int .i64 a0] rfl (by (try simp only [List.map_toArray, List.map_cons, List.map_nil]); first | done | rfl | (simp only [List.length_drop, List.length_take]; rfl)) ?_; (with_reducible refine (date_Civil.calls kj5 a0 t243 t244 t245 t246 _ A9.out).mono ?_); rintro e w' ⟨rfl, ⟨nd, rfl⟩⟩; refine ⟨_, rfl, ?_⟩) | ((with_reducible refine gate_callee (f := 29) rfl ?_); refine goesL_ (some 53) rfl rfl Tryd.func29 (by kernel_rfl) rfl #[.int .i64 a0, .int .i64 a1, .bool false] rfl (by (try simp only [List.map_toArray, List.map_cons, List.map_nil]); first | done | rfl | (simp only [List.length_drop, List.length_take]; rfl)) ?_; (with_reducible refine (date_Months.calls kj5 a0 a1 false t247 t248 _ A10.out).mono ?_); rintro e w' ⟨rfl, ⟨nd, rfl⟩⟩; refine ⟨_, rfl, ?_⟩))
     (try simp only [Act.put, List.setIfInBounds_toArray, List.set_cons_zero, List.set_cons_succ])
     go_cut [61] (fun v61 wc => ∃ (kq : Nat) (x61_10 : Bool), v61 = .bool x61_10 ∧ Aside0 (tenorlaw5_DateMoves.j1 kq a0 a1 t243 t244 t245 t247 t248 x61_10 = some r) ∧ Aside0 (kq ≤ kj5) ∧ Aside0 (Below w.heap.size w wc))
     case first =>
      have H := HC11.out;clear HC11
      by_cases c12 : t248 = 0
      ·
       rw [if_pos c12] at H
       have c12b0 : (t248 == 0) = true := beq_iff_eq.mpr c12
       have c12b1 : (t248 != 0) = false := bne_eq_false_iff_eq.mpr c12
       clear c12
       (first | rw [c12b0] | (simp only [i64_w, i32_w]; rw [c12b0]) | skip)
       have H' := Aside0.mk H;clear H
       go_wp2
       go_meet
       case rel => exact ⟨_, (decide (t245 ≤ 28)), (by first | rfl | (simp; done) | (simp [*]; done)), H', ⟨by have := HJ5.out; first | omega | exact Nat.le_refl _⟩, ⟨by repeat (first | (with_reducible first | exact HB.out | apply below_alloc | apply pw_below_drewN | apply below_drew1) | exact HB.out)⟩⟩
      ·
       rw [if_neg c12] at H
       have c12b0 : (t248 == 0) = false := beq_eq_false_iff_ne.mpr c12
       have c12b1 : (t248 != 0) = true := bne_iff_ne.mpr c12
       (first | rw [c12b0] | (simp only [i64_w, i32_w]; rw [c12b0]) | skip)
       have H' := Aside0.mk H;clear H
       go_wp2
       go_meet
       case rel => exact ⟨_, (false), (by first | rfl | (simp; done) | (simp [*]; done)), H', ⟨by have := HJ5.out; first | omega | exact Nat.le_refl _⟩, ⟨by repeat (first | (with_reducible first | exact HB.out | apply below_alloc | apply pw_below_drewN | apply below_drew1) | exact HB.out)⟩⟩
     case rest =>
      clear HC11
      obtain ⟨kq, x61_10, rfl, HA, HJ10, HB⟩ := hcut
      cases kq with
      | zero => exact absurd HA.out (by simp [tenorlaw5_DateMoves.j1])
      | succ kj10 =>
       have H := HA.out;clear HA
       simp only [tenorlaw5_DateMoves.j1] at H
       have HC13 := Aside0.mk H;clear H
       go_upto_if 61 with (fail)
       go_cut [] (fun wc => ∃ (kq : Nat), Aside0 (tenorlaw5_DateMoves.j2 kq a0 a1 t243 t244 t245 t247 t248 = some r) ∧ Aside0 (kq ≤ kj10) ∧ Aside0 (Below w.heap.size w wc))
       case first =>
        have H := HC13.out;clear HC13
        by_cases c14 : x61_10 = true
        ·
         subst c14
         have H1 : ((date_Months.f kj10 t247 (wrap64 (-a1)) false).bind fun bt249 => (if bt249.2 = 0 then (if bt249.1 = a0 then (tenorlaw5_DateMoves.j2 kj10 a0 a1 t243 t244 t245 t247 t248) else (some false)) else (some false))) = some r := by rw [if_pos rfl] at H; exact H
         clear H;have H := H1;clear H1;replace H := Option.bind_eq_some_iff.mp H
         obtain ⟨⟨t249, t250⟩, A150, H⟩ := H
         replace H : (if t250 = 0 then (if t249 = a0 then (tenorlaw5_DateMoves.j2 kj10 a0 a1 t243 t244 t245 t247 t248) else (some false)) else (some false)) = some r := H
         have A15 := Aside0.mk A150;clear A150
         by_cases c16 : t250 = 0
         ·
          rw [if_pos c16] at H
          have c16b0 : (t250 == 0) = true := beq_iff_eq.mpr c16
          have c16b1 : (t250 != 0) = false := bne_eq_false_iff_eq.mpr c16
          clear c16
          (first | rw [c16b0] | (simp only [i64_w, i32_w]; rw [c16b0]) | skip)
          by_cases c17 : t249 = a0
          ·
           rw [if_pos c17] at H
           have c17b0 : (t249 == a0) = true := beq_iff_eq.mpr c17
           have c17b1 : (t249 != a0) = false := bne_eq_false_iff_eq.mpr c17
           clear c17;have H' := Aside0.mk H;clear H
           go_wp2_with (first | ((with_reducible refine gate_callee (f := 29) rfl ?_); refine goesL_ (some 66) rfl rfl Tryd.func29 (by kernel_rfl) rfl #[.int .i64 t247, .int .i64 (wrap64 (-a1)), .bool false] rfl (by (try simp only [List.map_toArray, List.map_cons, List.map_nil]); first | done | rfl | (simp only [List.length_drop, List.length_take]; rfl)) ?_; (with_reducible refine (date_Months.calls kj10 t247 (wrap64 (-a1)) false t249 t250 _ A15.out).mono ?_); rintro e w' ⟨rfl, ⟨nd, rfl⟩⟩; refine ⟨_, rfl, ?_⟩))
           go_meet
           case rel => exact ⟨_, H', ⟨by have := HJ5.out; have := HJ10.out; first | omega | exact Nat.le_refl _⟩, ⟨by repeat (first | (with_reducible first | exact HB.out | apply below_alloc | apply pw_below_drewN | apply below_drew1) | exact HB.out)⟩⟩
          ·
           rw [if_neg c17] at H
           have c17b0 : (t249 == a0) = false := beq_eq_false_iff_ne.mpr c17
           have c17b1 : (t249 != a0) = true := bne_iff_ne.mpr c17
           obtain rfl := Option.some.inj H
           go_wp2_with (first | ((with_reducible refine gate_callee (f := 29) rfl ?_); refine goesL_ (some 66) rfl rfl Tryd.func29 (by kernel_rfl) rfl #[.int .i64 t247, .int .i64 (wrap64 (-a1)), .bool false] rfl (by (try simp only [List.map_toArray, List.map_cons, List.map_nil]); first | done | rfl | (simp only [List.length_drop, List.length_take]; rfl)) ?_; (with_reducible refine (date_Months.calls kj10 t247 (wrap64 (-a1)) false t249 t250 _ A15.out).mono ?_); rintro e w' ⟨rfl, ⟨nd, rfl⟩⟩; refine ⟨_, rfl, ?_⟩))
           go_ret
           exact ⟨by first | rfl | (simp [errW_none, errW_some] <;> rfl) | (simp [*, errW_none, errW_some] <;> rfl), by repeat (first | (with_reducible first | exact HB.out | apply below_alloc | apply pw_below_drewN | apply below_drew1) | exact HB.out)⟩
         ·
          rw [if_neg c16] at H
          have c16b0 : (t250 == 0) = false := beq_eq_false_iff_ne.mpr c16
          have c16b1 : (t250 != 0) = true := bne_iff_ne.mpr c16
          (first | rw [c16b0] | (simp only [i64_w, i32_w]; rw [c16b0]) | skip)
          obtain rfl := Option.some.inj H
          go_wp2_with (first | ((with_reducible refine gate_callee (f := 29) rfl ?_); refine goesL_ (some 66) rfl rfl Tryd.func29 (by kernel_rfl) rfl #[.int .i64 t247, .int .i64 (wrap64 (-a1)), .bool false] rfl (by (try simp only [List.map_toArray, List.map_cons, List.map_nil]); first | done | rfl | (simp only [List.length_drop, List.length_take]; rfl)) ?_; (with_reducible refine (date_Months.calls kj10 t247 (wrap64 (-a1)) false t249 t250 _ A15.out).mono ?_); rintro e w' ⟨rfl, ⟨nd, rfl⟩⟩; refine ⟨_, rfl, ?_⟩))
          go_ret
          exact ⟨by first | rfl | (simp [errW_none, errW_some] <;> rfl) | (simp [*, errW_none, errW_some] <;> rfl), by repeat (first | (with_reducible first | exact HB.out | apply below_alloc | apply pw_below_drewN | apply below_drew1) | exact HB.out)⟩
        ·
         replace c14 := Bool.eq_false_iff.mpr c14;subst c14
         have H1 : (tenorlaw5_DateMoves.j2 kj10 a0 a1 t243 t244 t245 t247 t248) = some r := by rw [if_neg (show ¬ (false = true) by decide)] at H; exact H
         clear H;have H := H1;clear H1;have H' := Aside0.mk H;clear H
         go_wp2
         go_meet
         case rel => exact ⟨_, H', ⟨by have := HJ5.out; have := HJ10.out; first | omega | exact Nat.le_refl _⟩, ⟨by repeat (first | (with_reducible first | exact HB.out | apply below_alloc | apply pw_below_drewN | apply below_drew1) | exact HB.out)⟩⟩
       case rest =>
        clear HC13
        obtain ⟨kq, HA, HJ12, HB⟩ := hcut
        cases kq with
        | zero => exact absurd HA.out (by simp [tenorlaw5_DateMoves.j2])
        | succ kj12 =>
         have H := HA.out;clear HA
         simp only [tenorlaw5_DateMoves.j2] at H
         have HC18 := Aside0.mk H;clear H
         go_upto_if 77 with (fail)
         go_cut [] (fun wc => ∃ (kq : Nat), Aside0 (tenorlaw5_DateMoves.j3 kq a0 t243 = some r) ∧ Aside0 (kq ≤ kj12) ∧ Aside0 (Below w.heap.size w wc))
         case first =>
          have H := HC18.out;clear HC18
          by_cases c19 : t248 = 0
          ·
           rw [if_pos c19] at H
           have c19b0 : (t248 == 0) = true := beq_iff_eq.mpr c19
           have c19b1 : (t248 != 0) = false := bne_eq_false_iff_eq.mpr c19
           clear c19
           (first | rw [c19b0] | (simp only [i64_w, i32_w]; rw [c19b0]) | skip)
           replace H := Option.bind_eq_some_iff.mp H
           obtain ⟨⟨t251, t252, t253, t254⟩, A200, H⟩ := H
           replace H : ((date_Length.f t251 t252).bind fun bt255 => (if a1 > 4000 then (some false) else (if a1 < (-4000) then (some false) else (if (wrap64 ((wrap64 (12 * t251)) + t252)) = (wrap64 ((wrap64 ((wrap64 (12 * t243)) + t244)) + a1)) then (if t253 = (mn t245 bt255.1) then (tenorlaw5_DateMoves.j3 kj12 a0 t243) else (some false)) else (some false))))) = some r := H
           have A20 := Aside0.mk A200;clear A200;replace H := Option.bind_eq_some_iff.mp H
           obtain ⟨⟨t255, t256⟩, A210, H⟩ := H
           replace H : (if a1 > 4000 then (some false) else (if a1 < (-4000) then (some false) else (if (wrap64 ((wrap64 (12 * t251)) + t252)) = (wrap64 ((wrap64 ((wrap64 (12 * t243)) + t244)) + a1)) then (if t253 = (mn t245 t255) then (tenorlaw5_DateMoves.j3 kj12 a0 t243) else (some false)) else (some false)))) = some r := H
           have A21 := Aside0.mk A210;clear A210
           by_cases c22 : a1 > 4000
           ·
            rw [if_pos c22] at H
            have c22b0 : decide (4000 < a1) = true := decide_eq_true c22
            clear c22
            obtain rfl := Option.some.inj H
            go_wp2_with (first | ((with_reducible refine gate_callee (f := 23) rfl ?_); refine goesL_ (some 80) rfl rfl Tryd.func23 (by kernel_rfl) rfl #[.int .i64 t247] rfl (by (try simp only [List.map_toArray, List.map_cons, List.map_nil]); first | done | rfl | (simp only [List.length_drop, List.length_take]; rfl)) ?_; (with_reducible refine (date_Civil.calls kj12 t247 t251 t252 t253 t254 _ A20.out).mono ?_); rintro e w' ⟨rfl, ⟨nd, rfl⟩⟩; refine ⟨_, rfl, ?_⟩) | ((with_reducible refine gate_callee (f := 19) rfl ?_); refine goesL_ (some 88) rfl rfl Tryd.func19 (by kernel_rfl) rfl #[.int .i64 t251, .int .i64 t252] rfl (by (try simp only [List.map_toArray, List.map_cons, List.map_nil]); first | done | rfl | (simp only [List.length_drop, List.length_take]; rfl)) ?_; (with_reducible refine (date_Length.calls t251 t252 t255 t256 _ A21.out).mono ?_); rintro e w' ⟨rfl, ⟨nd, rfl⟩⟩; refine ⟨_, rfl, ?_⟩))
            go_ret
            exact ⟨by first | rfl | (simp [errW_none, errW_some] <;> rfl) | (simp [*, errW_none, errW_some] <;> rfl), by repeat (first | (with_reducible first | exact HB.out | apply below_alloc | apply pw_below_drewN | apply below_drew1) | exact HB.out)⟩
           ·
            rw [if_neg c22] at H
            have c22b0 : decide (4000 < a1) = false := decide_eq_false c22
            clear c22
            by_cases c23 : a1 < (-4000)
            ·
             rw [if_pos c23] at H
             have c23b0 : decide (a1 < (-4000)) = true := decide_eq_true c23
             clear c23
             obtain rfl := Option.some.inj H
             go_wp2_with (first | ((with_reducible refine gate_callee (f := 23) rfl ?_); refine goesL_ (some 80) rfl rfl Tryd.func23 (by kernel_rfl) rfl #[.int .i64 t247] rfl (by (try simp only [List.map_toArray, List.map_cons, List.map_nil]); first | done | rfl | (simp only [List.length_drop, List.length_take]; rfl)) ?_; (with_reducible refine (date_Civil.calls kj12 t247 t251 t252 t253 t254 _ A20.out).mono ?_); rintro e w' ⟨rfl, ⟨nd, rfl⟩⟩; refine ⟨_, rfl, ?_⟩) | ((with_reducible refine gate_callee (f := 19) rfl ?_); refine goesL_ (some 88) rfl rfl Tryd.func19 (by kernel_rfl) rfl #[.int .i64 t251, .int .i64 t252] rfl (by (try simp only [List.map_toArray, List.map_cons, List.map_nil]); first | done | rfl | (simp only [List.length_drop, List.length_take]; rfl)) ?_; (with_reducible refine (date_Length.calls t251 t252 t255 t256 _ A21.out).mono ?_); rintro e w' ⟨rfl, ⟨nd, rfl⟩⟩; refine ⟨_, rfl, ?_⟩))
             go_ret
             exact ⟨by first | rfl | (simp [errW_none, errW_some] <;> rfl) | (simp [*, errW_none, errW_some] <;> rfl), by repeat (first | (with_reducible first | exact HB.out | apply below_alloc | apply pw_below_drewN | apply below_drew1) | exact HB.out)⟩
            ·
             rw [if_neg c23] at H
             have c23b0 : decide (a1 < (-4000)) = false := decide_eq_false c23
             clear c23
             by_cases c24 : (wrap64 ((wrap64 (12 * t251)) + t252)) = (wrap64 ((wrap64 ((wrap64 (12 * t243)) + t244)) + a1))
             ·
              rw [if_pos c24] at H
              have c24b0 : ((wrap64 ((wrap64 (12 * t251)) + t252)) == (wrap64 ((wrap64 ((wrap64 (12 * t243)) + t244)) + a1))) = true := beq_iff_eq.mpr c24
              have c24b1 : ((wrap64 ((wrap64 (12 * t251)) + t252)) != (wrap64 ((wrap64 ((wrap64 (12 * t243)) + t244)) + a1))) = false := bne_eq_false_iff_eq.mpr c24
              clear c24
              obtain ⟨ji25, hji25⟩ : ∃ j_ : Int, (mn t245 t255) = j_ := ⟨_, rfl⟩
              replace H : (if t253 = (ji25) then (tenorlaw5_DateMoves.j3 kj12 a0 t243) else (some false)) = some r := by first | (rw [hji25] at H; exact H) | (simp only [hji25] at H ⊢; exact H)
              (try rw [hji25] at A20)
              (try rw [hji25] at A21)
              have hji25_ : (if t255 < t245 then t255 else t245) = ji25 := hji25
              by_cases c26 : t253 = (ji25)
              ·
               rw [if_pos c26] at H
               have c26b0 : (t253 == (ji25)) = true := beq_iff_eq.mpr c26
               have c26b1 : (t253 != (ji25)) = false := bne_eq_false_iff_eq.mpr c26
               clear c26;have H' := Aside0.mk H;clear H
               go_wp2_with (first | ((with_reducible refine gate_callee (f := 23) rfl ?_); refine goesL_ (some 80) rfl rfl Tryd.func23 (by kernel_rfl) rfl #[.int .i64 t247] rfl (by (try simp only [List.map_toArray, List.map_cons, List.map_nil]); first | done | rfl | (simp only [List.length_drop, List.length_take]; rfl)) ?_; (with_reducible refine (date_Civil.calls kj12 t247 t251 t252 t253 t254 _ A20.out).mono ?_); rintro e w' ⟨rfl, ⟨nd, rfl⟩⟩; refine ⟨_, rfl, ?_⟩) | ((with_reducible refine gate_callee (f := 19) rfl ?_); refine goesL_ (some 88) rfl rfl Tryd.func19 (by kernel_rfl) rfl #[.int .i64 t251, .int .i64 t252] rfl (by (try simp only [List.map_toArray, List.map_cons, List.map_nil]); first | done | rfl | (simp only [List.length_drop, List.length_take]; rfl)) ?_; (with_reducible refine (date_Length.calls t251 t252 t255 t256 _ A21.out).mono ?_); rintro e w' ⟨rfl, ⟨nd, rfl⟩⟩; refine ⟨_, rfl, ?_⟩))
               go_meet
               case rel => exact ⟨_, H', ⟨by have := HJ5.out; have := HJ10.out; have := HJ12.out; first | omega | exact Nat.le_refl _⟩, ⟨by repeat (first | (with_reducible first | exact HB.out | apply below_alloc | apply pw_below_drewN | apply below_drew1) | exact HB.out)⟩⟩
              ·
               rw [if_neg c26] at H
               have c26b0 : (t253 == (ji25)) = false := beq_eq_false_iff_ne.mpr c26
               have c26b1 : (t253 != (ji25)) = true := bne_iff_ne.mpr c26
               obtain rfl := Option.some.inj H
               go_wp2_with (first | ((with_reducible refine gate_callee (f := 23) rfl ?_); refine goesL_ (some 80) rfl rfl Tryd.func23 (by kernel_rfl) rfl #[.int .i64 t247] rfl (by (try simp only [List.map_toArray, List.map_cons, List.map_nil]); first | done | rfl | (simp only [List.length_drop, List.length_take]; rfl)) ?_; (with_reducible refine (date_Civil.calls kj12 t247 t251 t252 t253 t254 _ A20.out).mono ?_); rintro e w' ⟨rfl, ⟨nd, rfl⟩⟩; refine ⟨_, rfl, ?_⟩) | ((with_reducible refine gate_callee (f := 19) rfl ?_); refine goesL_ (some 88) rfl rfl Tryd.func19 (by kernel_rfl) rfl #[.int .i64 t251, .int .i64 t252] rfl (by (try simp only [List.map_toArray, List.map_cons, List.map_nil]); first | done | rfl | (simp only [List.length_drop, List.length_take]; rfl)) ?_; (with_reducible refine (date_Length.calls t251 t252 t255 t256 _ A21.out).mono ?_); rintro e w' ⟨rfl, ⟨nd, rfl⟩⟩; refine ⟨_, rfl, ?_⟩))
               go_ret
               exact ⟨by first | rfl | (simp [errW_none, errW_some] <;> rfl) | (simp only [← hji25]; first | rfl | (simp [errW_none, errW_some] <;> rfl)) | (simp [*, errW_none, errW_some] <;> rfl), by repeat (first | (with_reducible first | exact HB.out | apply below_alloc | apply pw_below_drewN | apply below_drew1) | exact HB.out)⟩
             ·
              rw [if_neg c24] at H
              have c24b0 : ((wrap64 ((wrap64 (12 * t251)) + t252)) == (wrap64 ((wrap64 ((wrap64 (12 * t243)) + t244)) + a1))) = false := beq_eq_false_iff_ne.mpr c24
              have c24b1 : ((wrap64 ((wrap64 (12 * t251)) + t252)) != (wrap64 ((wrap64 ((wrap64 (12 * t243)) + t244)) + a1))) = true := bne_iff_ne.mpr c24
              obtain rfl := Option.some.inj H
              go_wp2_with (first | ((with_reducible refine gate_callee (f := 23) rfl ?_); refine goesL_ (some 80) rfl rfl Tryd.func23 (by kernel_rfl) rfl #[.int .i64 t247] rfl (by (try simp only [List.map_toArray, List.map_cons, List.map_nil]); first | done | rfl | (simp only [List.length_drop, List.length_take]; rfl)) ?_; (with_reducible refine (date_Civil.calls kj12 t247 t251 t252 t253 t254 _ A20.out).mono ?_); rintro e w' ⟨rfl, ⟨nd, rfl⟩⟩; refine ⟨_, rfl, ?_⟩) | ((with_reducible refine gate_callee (f := 19) rfl ?_); refine goesL_ (some 88) rfl rfl Tryd.func19 (by kernel_rfl) rfl #[.int .i64 t251, .int .i64 t252] rfl (by (try simp only [List.map_toArray, List.map_cons, List.map_nil]); first | done | rfl | (simp only [List.length_drop, List.length_take]; rfl)) ?_; (with_reducible refine (date_Length.calls t251 t252 t255 t256 _ A21.out).mono ?_); rintro e w' ⟨rfl, ⟨nd, rfl⟩⟩; refine ⟨_, rfl, ?_⟩))
              go_ret
              exact ⟨by first | rfl | (simp [errW_none, errW_some] <;> rfl) | (simp [*, errW_none, errW_some] <;> rfl), by repeat (first | (with_reducible first | exact HB.out | apply below_alloc | apply pw_below_drewN | apply below_drew1) | exact HB.out)⟩
          ·
           rw [if_neg c19] at H
           have c19b0 : (t248 == 0) = false := beq_eq_false_iff_ne.mpr c19
           have c19b1 : (t248 != 0) = true := bne_iff_ne.mpr c19
           (first | rw [c19b0] | (simp only [i64_w, i32_w]; rw [c19b0]) | skip)
           have H' := Aside0.mk H;clear H
           go_wp2
           go_meet
           case rel => exact ⟨_, H', ⟨by have := HJ5.out; have := HJ10.out; have := HJ12.out; first | omega | exact Nat.le_refl _⟩, ⟨by repeat (first | (with_reducible first | exact HB.out | apply below_alloc | apply pw_below_drewN | apply below_drew1) | exact HB.out)⟩⟩
         case rest =>
          clear HC18
          obtain ⟨kq, HA, HJ17, HB⟩ := hcut
          cases kq with
          | zero => exact absurd HA.out (by simp [tenorlaw5_DateMoves.j3])
          | succ kj17 =>
           have H := HA.out;clear HA
           simp only [tenorlaw5_DateMoves.j3] at H
           have HC27 := Aside0.mk H;clear H
           go_upto_region 17 with (fail)
           go_cut [123] (fun v123 wc => ∃ (kq : Nat) (x123_26 : Bool), v123 = .bool x123_26 ∧ Aside0 (tenorlaw5_DateMoves.j4 kq a0 x123_26 = some r) ∧ Aside0 (kq ≤ kj17) ∧ Aside0 (Below w.heap.size w wc))
           case first =>
            have H := HC27.out;clear HC27
            by_cases c28 : t243 ≥ 1901
            ·
             rw [if_pos c28] at H
             have c28b0 : decide (1901 ≤ t243) = true := decide_eq_true c28
             clear c28
             (first | rw [c28b0] | (simp only [i64_w, i32_w]; rw [c28b0]) | skip)
             have H' := Aside0.mk H;clear H
             go_wp2
             go_meet
             case rel => exact ⟨_, (decide ((wrap64 (t243 + 28)) ≤ 2099)), (by first | rfl | (simp; done) | (simp [*]; done)), H', ⟨by have := HJ5.out; have := HJ10.out; have := HJ12.out; have := HJ17.out; first | omega | exact Nat.le_refl _⟩, ⟨by repeat (first | (with_reducible first | exact HB.out | apply below_alloc | apply pw_below_drewN | apply below_drew1) | exact HB.out)⟩⟩
            ·
             rw [if_neg c28] at H
             have c28b0 : decide (1901 ≤ t243) = false := decide_eq_false c28
             clear c28
             (first | rw [c28b0] | (simp only [i64_w, i32_w]; rw [c28b0]) | skip)
             have H' := Aside0.mk H;clear H
             go_wp2
             go_meet
             case rel => exact ⟨_, (false), (by first | rfl | (simp; done) | (simp [*]; done)), H', ⟨by have := HJ5.out; have := HJ10.out; have := HJ12.out; have := HJ17.out; first | omega | exact Nat.le_refl _⟩, ⟨by repeat (first | (with_reducible first | exact HB.out | apply below_alloc | apply pw_below_drewN | apply below_drew1) | exact HB.out)⟩⟩
           case rest =>
            clear HC27
            obtain ⟨kq, x123_26, rfl, HA, HJ26, HB⟩ := hcut
            cases kq with
            | zero => exact absurd HA.out (by simp [tenorlaw5_DateMoves.j4])
            | succ kj26 =>
             have H := HA.out;clear HA
             simp only [tenorlaw5_DateMoves.j4] at H
             by_cases c29 : x123_26 = true
             ·
              subst c29
              have H1 : ((date_Months.f kj26 a0 336 false).bind fun bt257 => (if bt257.2 = 0 then (if (wrap64 (bt257.1 - a0)) = 10227 then (if (Int.tmod (wrap64 (bt257.1 - a0)) 7) = 0 then ((tenorlaw5_awake.f kj26).bind fun t259 => (some t259)) else (some false)) else (some false)) else (some false))) = some r := by rw [if_pos rfl] at H; exact H
              clear H;have H := H1;clear H1;replace H := Option.bind_eq_some_iff.mp H
              obtain ⟨⟨t257, t258⟩, A300, H⟩ := H
              replace H : (if t258 = 0 then (if (wrap64 (t257 - a0)) = 10227 then (if (Int.tmod (wrap64 (t257 - a0)) 7) = 0 then ((tenorlaw5_awake.f kj26).bind fun t259 => (some t259)) else (some false)) else (some false)) else (some false)) = some r := H
              have A30 := Aside0.mk A300;clear A300
              by_cases c31 : t258 = 0
              ·
               rw [if_pos c31] at H
               have c31b0 : (t258 == 0) = true := beq_iff_eq.mpr c31
               have c31b1 : (t258 != 0) = false := bne_eq_false_iff_eq.mpr c31
               clear c31
               by_cases c32 : (wrap64 (t257 - a0)) = 10227
               ·
                rw [if_pos c32] at H
                have c32b0 : ((wrap64 (t257 - a0)) == 10227) = true := beq_iff_eq.mpr c32
                have c32b1 : ((wrap64 (t257 - a0)) != 10227) = false := bne_eq_false_iff_eq.mpr c32
                clear c32
                by_cases c33 : (Int.tmod (wrap64 (t257 - a0)) 7) = 0
                ·
                 rw [if_pos c33] at H
                 have c33b0 : ((Int.tmod (wrap64 (t257 - a0)) 7) == 0) = true := beq_iff_eq.mpr c33
                 have c33b1 : ((Int.tmod (wrap64 (t257 - a0)) 7) != 0) = false := bne_eq_false_iff_eq.mpr c33
                 clear c33;replace H := Option.bind_eq_some_iff.mp H
                 obtain ⟨t259, A340, H⟩ := H
                 replace H : (some t259) = some r := H
                 have A34 := Aside0.mk A340;clear A340
                 obtain rfl := Option.some.inj H
                 go_wp2_with (first | ((with_reducible refine gate_callee (f := 29) rfl ?_); refine goesL_ (some 126) rfl rfl Tryd.func29 (by kernel_rfl) rfl #[.int .i64 a0, .int .i64 336, .bool false] rfl (by (try simp only [List.map_toArray, List.map_cons, List.map_nil]); first | done | rfl | (simp only [List.length_drop, List.length_take]; rfl)) ?_; (with_reducible refine (date_Months.calls kj26 a0 336 false t257 t258 _ A30.out).mono ?_); rintro e w' ⟨rfl, ⟨nd, rfl⟩⟩; refine ⟨_, rfl, ?_⟩) | (go_at_call 14; (with_reducible refine (tenorlaw5_awake.calls kj26  t259 _ A34.out).mono ?_); rintro e w35 ⟨rfl, hb⟩; have n0_ := Aside0.mk (below_step (by repeat (first | (with_reducible first | exact HB.out | apply below_alloc | apply pw_below_drewN | apply below_drew1) | exact HB.out)) hb); clear HB; have HB := n0_; clear n0_; (try clear hb); (try clear hb2); (try clear hk); (try clear hi)))
                 go_ret
                 exact ⟨by first | rfl | (simp [errW_none, errW_some] <;> rfl) | (simp [*, errW_none, errW_some] <;> rfl), by repeat (first | (with_reducible first | exact HB.out | apply below_alloc | apply pw_below_drewN | apply below_drew1) | exact HB.out)⟩
                ·
                 rw [if_neg c33] at H
                 have c33b0 : ((Int.tmod (wrap64 (t257 - a0)) 7) == 0) = false := beq_eq_false_iff_ne.mpr c33
                 have c33b1 : ((Int.tmod (wrap64 (t257 - a0)) 7) != 0) = true := bne_iff_ne.mpr c33
                 obtain rfl := Option.some.inj H
                 go_wp2_with (first | ((with_reducible refine gate_callee (f := 29) rfl ?_); refine goesL_ (some 126) rfl rfl Tryd.func29 (by kernel_rfl) rfl #[.int .i64 a0, .int .i64 336, .bool false] rfl (by (try simp only [List.map_toArray, List.map_cons, List.map_nil]); first | done | rfl | (simp only [List.length_drop, List.length_take]; rfl)) ?_; (with_reducible refine (date_Months.calls kj26 a0 336 false t257 t258 _ A30.out).mono ?_); rintro e w' ⟨rfl, ⟨nd, rfl⟩⟩; refine ⟨_, rfl, ?_⟩))
                 go_ret
                 exact ⟨by first | rfl | (simp [errW_none, errW_some] <;> rfl) | (simp [*, errW_none, errW_some] <;> rfl), by repeat (first | (with_reducible first | exact HB.out | apply below_alloc | apply pw_below_drewN | apply below_drew1) | exact HB.out)⟩
               ·
                rw [if_neg c32] at H
                have c32b0 : ((wrap64 (t257 - a0)) == 10227) = false := beq_eq_false_iff_ne.mpr c32
                have c32b1 : ((wrap64 (t257 - a0)) != 10227) = true := bne_iff_ne.mpr c32
                obtain rfl := Option.some.inj H
                go_wp2_with (first | ((with_reducible refine gate_callee (f := 29) rfl ?_); refine goesL_ (some 126) rfl rfl Tryd.func29 (by kernel_rfl) rfl #[.int .i64 a0, .int .i64 336, .bool false] rfl (by (try simp only [List.map_toArray, List.map_cons, List.map_nil]); first | done | rfl | (simp only [List.length_drop, List.length_take]; rfl)) ?_; (with_reducible refine (date_Months.calls kj26 a0 336 false t257 t258 _ A30.out).mono ?_); rintro e w' ⟨rfl, ⟨nd, rfl⟩⟩; refine ⟨_, rfl, ?_⟩))
                go_ret
                exact ⟨by first | rfl | (simp [errW_none, errW_some] <;> rfl) | (simp [*, errW_none, errW_some] <;> rfl), by repeat (first | (with_reducible first | exact HB.out | apply below_alloc | apply pw_below_drewN | apply below_drew1) | exact HB.out)⟩
              ·
               rw [if_neg c31] at H
               have c31b0 : (t258 == 0) = false := beq_eq_false_iff_ne.mpr c31
               have c31b1 : (t258 != 0) = true := bne_iff_ne.mpr c31
               obtain rfl := Option.some.inj H
               go_wp2_with (first | ((with_reducible refine gate_callee (f := 29) rfl ?_); refine goesL_ (some 126) rfl rfl Tryd.func29 (by kernel_rfl) rfl #[.int .i64 a0, .int .i64 336, .bool false] rfl (by (try simp only [List.map_toArray, List.map_cons, List.map_nil]); first | done | rfl | (simp only [List.length_drop, List.length_take]; rfl)) ?_; (with_reducible refine (date_Months.calls kj26 a0 336 false t257 t258 _ A30.out).mono ?_); rintro e w' ⟨rfl, ⟨nd, rfl⟩⟩; refine ⟨_, rfl, ?_⟩))
               go_ret
               exact ⟨by first | rfl | (simp [errW_none, errW_some] <;> rfl) | (simp [*, errW_none, errW_some] <;> rfl), by repeat (first | (with_reducible first | exact HB.out | apply below_alloc | apply pw_below_drewN | apply below_drew1) | exact HB.out)⟩
             ·
              replace c29 := Bool.eq_false_iff.mpr c29;subst c29
              have H1 : ((tenorlaw5_awake.f kj26).bind fun t260 => (some t260)) = some r := by rw [if_neg (show ¬ (false = true) by decide)] at H; exact H
              clear H;have H := H1;clear H1;replace H := Option.bind_eq_some_iff.mp H
              obtain ⟨t260, A360, H⟩ := H
              replace H : (some t260) = some r := H
              have A36 := Aside0.mk A360;clear A360
              obtain rfl := Option.some.inj H
              go_wp2_with (first | ((with_reducible refine gate_callee (f := 14) rfl ?_); refine goesL_ (some 147) rfl rfl Tryd.func14 (by kernel_rfl) rfl #[] rfl (by (try simp only [List.map_toArray, List.map_cons, List.map_nil]); first | done | rfl | (simp only [List.length_drop, List.length_take]; rfl)) ?_; (with_reducible refine (tenorlaw5_awake.calls kj26  t260 _ A36.out).mono ?_); rintro e w37 ⟨rfl, hb⟩; refine ⟨_, rfl, ?_⟩; have n0_ := Aside0.mk (below_step (by repeat (first | (with_reducible first | exact HB.out | apply below_alloc | apply pw_below_drewN | apply below_drew1) | exact HB.out)) hb); clear HB; have HB := n0_; clear n0_; (try clear hb); (try clear hb2); (try clear hk); (try clear hi)))
              go_ret
              exact ⟨by first | rfl | (simp [errW_none, errW_some] <;> rfl) | (simp [*, errW_none, errW_some] <;> rfl), by repeat (first | (with_reducible first | exact HB.out | apply below_alloc | apply pw_below_drewN | apply below_drew1) | exact HB.out)⟩
 ·
  replace c5 := Bool.eq_false_iff.mpr c5;subst c5
  have H1 : (if t240 = 51 then ((tenorlaw5_awake.f k).bind fun t242 => (some t242)) else (some false)) = some r := by rw [if_neg (show ¬ (false = true) by decide)] at H; exact H
  clear H;have H := H1;clear H1
  by_cases c38 : t240 = 51
  ·
   rw [if_pos c38] at H
   have c38b0 : (t240 == 51) = true := beq_iff_eq.mpr c38
   have c38b1 : (t240 != 51) = false := bne_eq_false_iff_eq.mpr c38
   clear c38;replace H := Option.bind_eq_some_iff.mp H
   obtain ⟨t242, A390, H⟩ := H
   replace H : (some t242) = some r := H
   have A39 := Aside0.mk A390;clear A390
   obtain rfl := Option.some.inj H
   go_enter Tryd.func9, Tryd.ntmps9
   go_wp2_with (first | ((with_reducible refine gate_callee (f := 29) rfl ?_); refine goesL_ (some 25) rfl rfl Tryd.func29 (by kernel_rfl) rfl #[.int .i64 a0, .int .i64 0, .bool false] rfl (by (try simp only [List.map_toArray, List.map_cons, List.map_nil]); first | done | rfl | (simp only [List.length_drop, List.length_take]; rfl)) ?_; (with_reducible refine (date_Months.calls k a0 0 false t239 t240 _ A3.out).mono ?_); rintro e w' ⟨rfl, ⟨nd, rfl⟩⟩; refine ⟨_, rfl, ?_⟩) | ((with_reducible refine gate_callee (f := 31) rfl ?_); refine goesL_ (some 29) rfl rfl Tryd.func31 (by kernel_rfl) rfl #[.int .i64 a0] rfl (by (try simp only [List.map_toArray, List.map_cons, List.map_nil]); first | done | rfl | (simp only [List.length_drop, List.length_take]; rfl)) ?_; (with_reducible refine (tenorlaw5_isDay.calls a0 false _ A4.out).mono ?_); rintro e w' ⟨rfl, ⟨nd, rfl⟩⟩; refine ⟨_, rfl, ?_⟩) | (go_at_call 14; (with_reducible refine (tenorlaw5_awake.calls k  t242 _ A39.out).mono ?_); rintro e w40 ⟨rfl, hb⟩; have n0_ := Aside0.mk (below_step (by repeat (first | (with_reducible first | exact HB.out | apply below_alloc | apply pw_below_drewN | apply below_drew1) | exact HB.out)) hb); clear HB; have HB := n0_; clear n0_; (try clear hb); (try clear hb2); (try clear hk); (try clear hi)))
   go_ret
   exact ⟨by first | rfl | (simp [errW_none, errW_some] <;> rfl) | (simp [*, errW_none, errW_some] <;> rfl), by repeat (first | (with_reducible first | exact HB.out | apply below_alloc | apply pw_below_drewN | apply below_drew1) | exact HB.out)⟩
  ·
   rw [if_neg c38] at H
   have c38b0 : (t240 == 51) = false := beq_eq_false_iff_ne.mpr c38
   have c38b1 : (t240 != 51) = true := bne_iff_ne.mpr c38
   obtain rfl := Option.some.inj H
   go_enter Tryd.func9, Tryd.ntmps9
   go_wp2_with (first | ((with_reducible refine gate_callee (f := 29) rfl ?_); refine goesL_ (some 25) rfl rfl Tryd.func29 (by kernel_rfl) rfl #[.int .i64 a0, .int .i64 0, .bool false] rfl (by (try simp only [List.map_toArray, List.map_cons, List.map_nil]); first | done | rfl | (simp only [List.length_drop, List.length_take]; rfl)) ?_; (with_reducible refine (date_Months.calls k a0 0 false t239 t240 _ A3.out).mono ?_); rintro e w' ⟨rfl, ⟨nd, rfl⟩⟩; refine ⟨_, rfl, ?_⟩) | ((with_reducible refine gate_callee (f := 31) rfl ?_); refine goesL_ (some 29) rfl rfl Tryd.func31 (by kernel_rfl) rfl #[.int .i64 a0] rfl (by (try simp only [List.map_toArray, List.map_cons, List.map_nil]); first | done | rfl | (simp only [List.length_drop, List.length_take]; rfl)) ?_; (with_reducible refine (tenorlaw5_isDay.calls a0 false _ A4.out).mono ?_); rintro e w' ⟨rfl, ⟨nd, rfl⟩⟩; refine ⟨_, rfl, ?_⟩))
   go_ret
   exact ⟨by first | rfl | (simp [errW_none, errW_some] <;> rfl) | (simp [*, errW_none, errW_some] <;> rfl), by repeat (first | (with_reducible first | exact HB.out | apply below_alloc | apply pw_below_drewN | apply below_drew1) | exact HB.out)⟩
end Go.Proofs.YtoncignjcgjhhaaDoor.Q
