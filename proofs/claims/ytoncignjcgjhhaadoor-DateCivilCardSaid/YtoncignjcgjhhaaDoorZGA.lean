/- Contracts and facts of functions of the program (calendar, dates and their documents), joined in one text by a program of this session. No condition but what each theorem states. -/
import Derived.Test.YtoncignjcgjhhaaDoorProg
import Derived.Below
import Derived.Deep.Draws
import Derived.Deep.AppendLies
import Derived.Maps.AppendAt
import Derived.OwnWalk
import Derived.Laws.BytesArg
import Derived.Laws.MakeOwn
import Derived.Laws.OwnMore
import Derived.Deep.OwnRows
import Derived.Tactics
import Derived.Lib.ConvBytes
import Derived.Laws.Slices
import Derived.WalkKit
import Derived.KernelRfl
import Derived.RowKit3
import Derived.Deep.LoopGhost
import Derived.Deep.QuietTactic
import Derived.BigQuiet
import Derived.WideLaws
import Derived.Deep.DeepCutAuto
import Derived.Deep.CutBlock
import Derived.Deep.RegionHeld3
import Derived.Laws.Rows
import Derived.Lib.AppendStr
import Derived.ArgAppend
import Derived.Laws.IdiomCopy
import Derived.OrdersHeld
import Derived.Laws.BitsLemmas
import Derived.RowKit
import Derived.Test.YtoncignjcgjhhaaDoorZW
set_option linter.unusedVariables false
set_option linter.unusedSimpArgs false
namespace Go.Proofs.YtoncignjcgjhhaaDoor.Q
open Go.RowKit Go.Proofs.YtoncignjcgjhhaaDoorW.PrintWords Go.Proofs.YtoncignjcgjhhaaDoorW.PrintLast Go.Proofs.YtoncignjcgjhhaaDoorW.PrintMore
attribute [local go_sem] max2_int min2_int max_two min_two max_three min_three max_four min_four   -- for this text's walks alone
def errW : Option Int → Value
  | none => .nilIface
  | some c => .iface 67 (.int .i64 c)
theorem errW_none : errW none = .nilIface := rfl
theorem errW_some (c : Int) : errW (some c) = .iface 67 (.int .i64 c) := rfl
theorem info5 : (Tryd.prog.info? 5).map (fun i => (i.zero, i.size, i.bytes)) = some (some (.int .u8 0), 1, 1) := by kernel_rfl
-- the values' own types
end Go.Proofs.YtoncignjcgjhhaaDoor.Q
namespace Go.Proofs.YtoncignjcgjhhaaDoor.Q
open Go.RowKit Go.Proofs.YtoncignjcgjhhaaDoorW.PrintWords Go.Proofs.YtoncignjcgjhhaaDoorW.PrintLast Go.Proofs.YtoncignjcgjhhaaDoorW.PrintMore
attribute [local go_sem] max2_int min2_int max_two min_two max_three min_three max_four min_four   -- for this text's walks alone
def date_month.f (a0 : Int) (a1 : Int) : Option (Bool) := if a0 ≥ 1900 then (if a0 ≤ 2199 then (if a1 ≥ 1 then (some (decide (a1 ≤ 12))) else (some false)) else (some false)) else (some false)
set_option maxHeartbeats 8000000 in
set_option maxRecDepth 100000 in
theorem date_month.calls (a0 : Int) (a1 : Int) (r : Bool) (w : World) (h : date_month.f a0 a1 = some r) :
  Calls Tryd.prog 32 #[.int .i64 a0, .int .i64 a1] w fun e w' => e = .returned (.bool r) ∧ Drawn0 w w' := by
 have H : (if a0 ≥ 1900 then (if a0 ≤ 2199 then (if a1 ≥ 1 then (some (decide (a1 ≤ 12))) else (some false)) else (some false)) else (some false)) = some r := h
 clear h
 by_cases c3 : a0 ≥ 1900
 ·
  rw [if_pos c3] at H
  have c3b0 : decide (1900 ≤ a0) = true := decide_eq_true c3
  clear c3
  by_cases c4 : a0 ≤ 2199
  ·
   rw [if_pos c4] at H
   have c4b0 : decide (a0 ≤ 2199) = true := decide_eq_true c4
   clear c4
   by_cases c5 : a1 ≥ 1
   ·
    rw [if_pos c5] at H
    have c5b0 : decide (1 ≤ a1) = true := decide_eq_true c5
    clear c5
    obtain rfl := Option.some.inj H
    go_enter Tryd.func32, Tryd.ntmps32
    go_wp2
    go_ret
    exact ⟨by first | rfl | (simp; done) | (simp [*]; done), by repeat (first | exact Drawn0.refl _ | apply Drawn0.step)⟩
   ·
    rw [if_neg c5] at H
    have c5b0 : decide (1 ≤ a1) = false := decide_eq_false c5
    clear c5
    obtain rfl := Option.some.inj H
    go_enter Tryd.func32, Tryd.ntmps32
    go_wp2
    go_ret
    exact ⟨by first | rfl | (simp; done) | (simp [*]; done), by repeat (first | exact Drawn0.refl _ | apply Drawn0.step)⟩
  ·
   rw [if_neg c4] at H
   have c4b0 : decide (a0 ≤ 2199) = false := decide_eq_false c4
   clear c4
   obtain rfl := Option.some.inj H
   go_enter Tryd.func32, Tryd.ntmps32
   go_wp2
   go_ret
   exact ⟨by first | rfl | (simp; done) | (simp [*]; done), by repeat (first | exact Drawn0.refl _ | apply Drawn0.step)⟩
 ·
  rw [if_neg c3] at H
  have c3b0 : decide (1900 ≤ a0) = false := decide_eq_false c3
  clear c3
  obtain rfl := Option.some.inj H
  go_enter Tryd.func32, Tryd.ntmps32
  go_wp2
  go_ret
  exact ⟨by first | rfl | (simp; done) | (simp [*]; done), by repeat (first | exact Drawn0.refl _ | apply Drawn0.step)⟩
def date_Leap.f (a0 : Int) : Option (Bool) := if (Int.tmod a0 4) = 0 then (if (Int.tmod a0 100) = 0 then (some ((Int.tmod a0 400) == 0)) else (some true)) else (some false)
set_option maxHeartbeats 8000000 in
set_option maxRecDepth 100000 in
theorem date_Leap.calls (a0 : Int) (r : Bool) (w : World) (h : date_Leap.f a0 = some r) :
  Calls Tryd.prog 27 #[.int .i64 a0] w fun e w' => e = .returned (.bool r) ∧ Drawn0 w w' := by
 have H : (if (Int.tmod a0 4) = 0 then (if (Int.tmod a0 100) = 0 then (some ((Int.tmod a0 400) == 0)) else (some true)) else (some false)) = some r := h
 clear h
 by_cases c2 : (Int.tmod a0 4) = 0
 ·
  rw [if_pos c2] at H
  have c2b0 : ((Int.tmod a0 4) == 0) = true := beq_iff_eq.mpr c2
  have c2b1 : ((Int.tmod a0 4) != 0) = false := bne_eq_false_iff_eq.mpr c2
  clear c2
  by_cases c3 : (Int.tmod a0 100) = 0
  ·
   rw [if_pos c3] at H
   have c3b0 : ((Int.tmod a0 100) == 0) = true := beq_iff_eq.mpr c3
   have c3b1 : ((Int.tmod a0 100) != 0) = false := bne_eq_false_iff_eq.mpr c3
   clear c3
   obtain rfl := Option.some.inj H
   go_enter Tryd.func27, Tryd.ntmps27
   go_wp2
   go_ret
   exact ⟨by first | rfl | (simp; done) | (simp [*]; done), by repeat (first | exact Drawn0.refl _ | apply Drawn0.step)⟩
  ·
   rw [if_neg c3] at H
   have c3b0 : ((Int.tmod a0 100) == 0) = false := beq_eq_false_iff_ne.mpr c3
   have c3b1 : ((Int.tmod a0 100) != 0) = true := bne_iff_ne.mpr c3
   obtain rfl := Option.some.inj H
   go_enter Tryd.func27, Tryd.ntmps27
   go_wp2
   go_ret
   exact ⟨by first | rfl | (simp; done) | (simp [*]; done), by repeat (first | exact Drawn0.refl _ | apply Drawn0.step)⟩
 ·
  rw [if_neg c2] at H
  have c2b0 : ((Int.tmod a0 4) == 0) = false := beq_eq_false_iff_ne.mpr c2
  have c2b1 : ((Int.tmod a0 4) != 0) = true := bne_iff_ne.mpr c2
  obtain rfl := Option.some.inj H
  go_enter Tryd.func27, Tryd.ntmps27
  go_wp2
  go_ret
  exact ⟨by first | rfl | (simp; done) | (simp [*]; done), by repeat (first | exact Drawn0.refl _ | apply Drawn0.step)⟩
def date_length.f (a0 : Int) (a1 : Int) : Option (Int) := if a1 = 2 then ((date_Leap.f a0).bind fun t101 => (if t101 = true then (some 29) else (some 28))) else (if a1 = 4 then (some 30) else (if a1 = 6 then (some 30) else (if a1 = 9 then (some 30) else (if a1 = 11 then (some 30) else (some 31)))))
set_option maxHeartbeats 8000000 in
set_option maxRecDepth 100000 in
theorem date_length.calls (a0 : Int) (a1 : Int) (r : Int) (w : World) (h : date_length.f a0 a1 = some r) :
  Calls Tryd.prog 41 #[.int .i64 a0, .int .i64 a1] w fun e w' => e = .returned (.int .i64 r) ∧ Drawn0 w w' := by
 have H : (if a1 = 2 then ((date_Leap.f a0).bind fun t101 => (if t101 = true then (some 29) else (some 28))) else (if a1 = 4 then (some 30) else (if a1 = 6 then (some 30) else (if a1 = 9 then (some 30) else (if a1 = 11 then (some 30) else (some 31)))))) = some r := h
 clear h
 by_cases c3 : a1 = 2
 ·
  rw [if_pos c3] at H
  have c3b0 : (a1 == 2) = true := beq_iff_eq.mpr c3
  have c3b1 : (a1 != 2) = false := bne_eq_false_iff_eq.mpr c3
  clear c3;replace H := Option.bind_eq_some_iff.mp H
  obtain ⟨t101, A40, H⟩ := H
  replace H : (if t101 = true then (some 29) else (some 28)) = some r := H
  have A4 := Aside0.mk A40;clear A40
  by_cases c5 : t101 = true
  ·
   subst c5
   have H1 : (some 29) = some r := by rw [if_pos rfl] at H; exact H
   clear H;have H := H1;clear H1
   obtain rfl := Option.some.inj H
   go_enter Tryd.func41, Tryd.ntmps41
   go_wp2_with (first | ((with_reducible refine gate_callee (f := 27) rfl ?_); refine goesL_ (some 9) rfl rfl Tryd.func27 (by kernel_rfl) rfl #[.int .i64 a0] rfl (by (try simp only [List.map_toArray, List.map_cons, List.map_nil]); first | done | rfl | (simp only [List.length_drop, List.length_take]; rfl)) ?_; (with_reducible refine (date_Leap.calls a0 true _ A4.out).mono ?_); rintro e w' ⟨rfl, ⟨nd, rfl⟩⟩; refine ⟨_, rfl, ?_⟩))
   go_ret
   exact ⟨by first | rfl | (simp; done) | (simp [*]; done), by repeat (first | exact Drawn0.refl _ | apply Drawn0.step)⟩
  ·
   replace c5 := Bool.eq_false_iff.mpr c5;subst c5
   have H1 : (some 28) = some r := by rw [if_neg (show ¬ (false = true) by decide)] at H; exact H
   clear H;have H := H1;clear H1
   obtain rfl := Option.some.inj H
   go_enter Tryd.func41, Tryd.ntmps41
   go_wp2_with (first | ((with_reducible refine gate_callee (f := 27) rfl ?_); refine goesL_ (some 9) rfl rfl Tryd.func27 (by kernel_rfl) rfl #[.int .i64 a0] rfl (by (try simp only [List.map_toArray, List.map_cons, List.map_nil]); first | done | rfl | (simp only [List.length_drop, List.length_take]; rfl)) ?_; (with_reducible refine (date_Leap.calls a0 false _ A4.out).mono ?_); rintro e w' ⟨rfl, ⟨nd, rfl⟩⟩; refine ⟨_, rfl, ?_⟩))
   go_ret
   exact ⟨by first | rfl | (simp; done) | (simp [*]; done), by repeat (first | exact Drawn0.refl _ | apply Drawn0.step)⟩
 ·
  rw [if_neg c3] at H
  have c3b0 : (a1 == 2) = false := beq_eq_false_iff_ne.mpr c3
  have c3b1 : (a1 != 2) = true := bne_iff_ne.mpr c3
  by_cases c6 : a1 = 4
  ·
   rw [if_pos c6] at H
   have c6b0 : (a1 == 4) = true := beq_iff_eq.mpr c6
   have c6b1 : (a1 != 4) = false := bne_eq_false_iff_eq.mpr c6
   clear c6
   obtain rfl := Option.some.inj H
   go_enter Tryd.func41, Tryd.ntmps41
   go_wp2
   go_ret
   exact ⟨by first | rfl | (simp; done) | (simp [*]; done), by repeat (first | exact Drawn0.refl _ | apply Drawn0.step)⟩
  ·
   rw [if_neg c6] at H
   have c6b0 : (a1 == 4) = false := beq_eq_false_iff_ne.mpr c6
   have c6b1 : (a1 != 4) = true := bne_iff_ne.mpr c6
   by_cases c7 : a1 = 6
   ·
    rw [if_pos c7] at H
    have c7b0 : (a1 == 6) = true := beq_iff_eq.mpr c7
    have c7b1 : (a1 != 6) = false := bne_eq_false_iff_eq.mpr c7
    clear c7
    obtain rfl := Option.some.inj H
    go_enter Tryd.func41, Tryd.ntmps41
    go_wp2
    go_ret
    exact ⟨by first | rfl | (simp; done) | (simp [*]; done), by repeat (first | exact Drawn0.refl _ | apply Drawn0.step)⟩
   ·
    rw [if_neg c7] at H
    have c7b0 : (a1 == 6) = false := beq_eq_false_iff_ne.mpr c7
    have c7b1 : (a1 != 6) = true := bne_iff_ne.mpr c7
    by_cases c8 : a1 = 9
    ·
     rw [if_pos c8] at H
     have c8b0 : (a1 == 9) = true := beq_iff_eq.mpr c8
     have c8b1 : (a1 != 9) = false := bne_eq_false_iff_eq.mpr c8
     clear c8
     obtain rfl := Option.some.inj H
     go_enter Tryd.func41, Tryd.ntmps41
     go_wp2
     go_ret
     exact ⟨by first | rfl | (simp; done) | (simp [*]; done), by repeat (first | exact Drawn0.refl _ | apply Drawn0.step)⟩
    ·
     rw [if_neg c8] at H
     have c8b0 : (a1 == 9) = false := beq_eq_false_iff_ne.mpr c8
     have c8b1 : (a1 != 9) = true := bne_iff_ne.mpr c8
     by_cases c9 : a1 = 11
     ·
      rw [if_pos c9] at H
      have c9b0 : (a1 == 11) = true := beq_iff_eq.mpr c9
      have c9b1 : (a1 != 11) = false := bne_eq_false_iff_eq.mpr c9
      clear c9
      obtain rfl := Option.some.inj H
      go_enter Tryd.func41, Tryd.ntmps41
      go_wp2
      go_ret
      exact ⟨by first | rfl | (simp; done) | (simp [*]; done), by repeat (first | exact Drawn0.refl _ | apply Drawn0.step)⟩
     ·
      rw [if_neg c9] at H
      have c9b0 : (a1 == 11) = false := beq_eq_false_iff_ne.mpr c9
      have c9b1 : (a1 != 11) = true := bne_iff_ne.mpr c9
      obtain rfl := Option.some.inj H
      go_enter Tryd.func41, Tryd.ntmps41
      go_wp2
      go_ret
      exact ⟨by first | rfl | (simp; done) | (simp [*]; done), by repeat (first | exact Drawn0.refl _ | apply Drawn0.step)⟩
def date_before.f (a0 : Int) : Option (Int) := some (wrap64 ((wrap64 ((wrap64 (365 * (wrap64 (a0 - 1900)))) + (wrap64 ((wrap64 ((wrap64 (Int.tdiv (wrap64 (a0 - 1)) 4)) - (wrap64 (Int.tdiv (wrap64 (a0 - 1)) 100)))) + (wrap64 (Int.tdiv (wrap64 (a0 - 1)) 400)))))) - 460))
set_option maxHeartbeats 8000000 in
set_option maxRecDepth 100000 in
theorem date_before.calls (a0 : Int) (r : Int) (w : World) (h : date_before.f a0 = some r) :
  Calls Tryd.prog 44 #[.int .i64 a0] w fun e w' => e = .returned (.int .i64 r) ∧ Drawn0 w w' := by
 have H : (some (wrap64 ((wrap64 ((wrap64 (365 * (wrap64 (a0 - 1900)))) + (wrap64 ((wrap64 ((wrap64 (Int.tdiv (wrap64 (a0 - 1)) 4)) - (wrap64 (Int.tdiv (wrap64 (a0 - 1)) 100)))) + (wrap64 (Int.tdiv (wrap64 (a0 - 1)) 400)))))) - 460))) = some r := h
 clear h
 obtain rfl := Option.some.inj H
 go_enter Tryd.func44, Tryd.ntmps44
 go_wp2
 go_ret
 exact ⟨by first | rfl | (simp; done) | (simp [*]; done), by repeat (first | exact Drawn0.refl _ | apply Drawn0.step)⟩
def date_day.l0 : Nat → Int → Int → Int → Int → Option (Int)
  | 0, _, _, _, _ => none
  | k + 1, x0, x7, x15, x16 => if x16 < x15 then ((date_length.f x0 (wrap64 (x16 + 1))).bind fun t103 => (date_day.l0 k x0 (wrap64 (x7 + t103)) x15 (wrap64 (x16 + 1)))) else (some x7)
def date_day.f (k : Nat) (a0 : Int) (a1 : Int) (a2 : Int) : Option (Int) := (date_before.f a0).bind fun t102 => (date_day.l0 k a0 (wrap64 ((wrap64 (t102 + a2)) - 1)) (wrap64 (a1 - 1)) 0)
theorem date_day.mono_l : ∀ k, (∀ y0 y1 y2 y3, LeO (date_day.l0 k y0 y1 y2 y3) (date_day.l0 (k + 1) y0 y1 y2 y3))
 | 0 => fun _ _ _ _ r h => by simp [date_day.l0] at h
 | k + 1 => by
  have ih0 := date_day.mono_l k
  ·
   intro y0 y1 y2 y3
   unfold date_day.l0
   repeat' first
   | (with_reducible exact ih0 _ _ _ _)
   | (with_reducible exact LeO.refl _)
   | (with_reducible exact LeO.none _)
   | (with_reducible refine LeO.ite ?_ ?_)
   | (with_reducible refine LeO.bind ?_ (fun _ => ?_))
   | exact ih0 _ _ _ _
   | exact LeO.none _
   | refine LeO.ite ?_ ?_
   | refine LeO.bind ?_ (fun _ => ?_)
theorem date_day.mono : ∀ a0 a1 a2 k, LeO (date_day.f k a0 a1 a2) (date_day.f (k + 1) a0 a1 a2) := by
 intro a0 a1 a2 k
 have ih0 := date_day.mono_l k
 unfold date_day.f
 repeat' first
   | (with_reducible exact ih0 _ _ _ _)
   | (with_reducible exact LeO.refl _)
   | (with_reducible exact LeO.none _)
   | (with_reducible refine LeO.ite ?_ ?_)
   | (with_reducible refine LeO.bind ?_ (fun _ => ?_))
   | exact ih0 _ _ _ _
   | exact LeO.none _
   | refine LeO.ite ?_ ?_
   | refine LeO.bind ?_ (fun _ => ?_)
set_option maxHeartbeats 8000000 in
set_option maxRecDepth 100000 in
theorem date_day.calls (k : Nat) (a0 : Int) (a1 : Int) (a2 : Int) (r : Int) (w : World) (h : date_day.f k a0 a1 a2 = some r) :
  Calls Tryd.prog 33 #[.int .i64 a0, .int .i64 a1, .int .i64 a2] w fun e w' => e = .returned (.int .i64 r) ∧ Drawn0 w w' := by
 have H : ((date_before.f a0).bind fun t102 => (date_day.l0 k a0 (wrap64 ((wrap64 (t102 + a2)) - 1)) (wrap64 (a1 - 1)) 0)) = some r := h
 clear h;replace H := Option.bind_eq_some_iff.mp H
 obtain ⟨t102, A40, H⟩ := H
 replace H : (date_day.l0 k a0 (wrap64 ((wrap64 (t102 + a2)) - 1)) (wrap64 (a1 - 1)) 0) = some r := H
 have A4 := Aside0.mk A40;clear A40;have H' := Aside0.mk H;clear H
 go_enter Tryd.func33, Tryd.ntmps33
 go_wp2_with (first | ((with_reducible refine gate_callee (f := 44) rfl ?_); refine goesL_ (some 10) rfl rfl Tryd.func44 (by kernel_rfl) rfl #[.int .i64 a0] rfl (by (try simp only [List.map_toArray, List.map_cons, List.map_nil]); first | done | rfl | (simp only [List.length_drop, List.length_take]; rfl)) ?_; (with_reducible refine (date_before.calls a0 t102 _ A4.out).mono ?_); rintro e w' ⟨rfl, ⟨nd, rfl⟩⟩; refine ⟨_, rfl, ?_⟩))
 go_loopg [7, 16] k (fun kq v7 v16 w' => ∃ (x7_1 : Int) (x16_1 : Int), v7 = .int .i64 x7_1 ∧ v16 = .int .i64 x16_1 ∧ Aside0 (date_day.l0 kq a0 x7_1 (wrap64 (a1 - 1)) x16_1 = some r) ∧ Aside0 (kq ≤ k) ∧ Drawn0 w w')
 case atStart => exact ⟨(wrap64 ((wrap64 (t102 + a2)) - 1)), (0), (by first | rfl | (simp; done) | (simp [*]; done)), (by first | rfl | (simp; done) | (simp [*]; done)), H', ⟨Nat.le_refl _⟩, by repeat (first | exact Drawn0.refl _ | apply Drawn0.step)⟩
 case round =>
  clear H'
  obtain ⟨x7_1, x16_1, rfl, rfl, HA, HK1, ⟨m1, rfl⟩⟩ := hrel
  cases gk with
  | zero => exact absurd HA.out (by simp [date_day.l0])
  | succ k1 =>
   have H := HA.out;clear HA
   simp only [date_day.l0] at H
   by_cases c5 : x16_1 < (wrap64 (a1 - 1))
   ·
    rw [if_pos c5] at H
    have c5b0 : decide (x16_1 < (wrap64 (a1 - 1))) = true := decide_eq_true c5
    clear c5;replace H := Option.bind_eq_some_iff.mp H
    obtain ⟨t103, A60, H⟩ := H
    replace H : (date_day.l0 k1 a0 (wrap64 (x7_1 + t103)) (wrap64 (a1 - 1)) (wrap64 (x16_1 + 1))) = some r := H
    have A6 := Aside0.mk A60;clear A60;have H' := Aside0.mk H;clear H
    go_wp2_with (first | ((with_reducible refine gate_callee (f := 41) rfl ?_); refine goesL_ (some 23) rfl rfl Tryd.func41 (by kernel_rfl) rfl #[.int .i64 a0, .int .i64 (wrap64 (x16_1 + 1))] rfl (by (try simp only [List.map_toArray, List.map_cons, List.map_nil]); first | done | rfl | (simp only [List.length_drop, List.length_take]; rfl)) ?_; (with_reducible refine (date_length.calls a0 (wrap64 (x16_1 + 1)) t103 _ A6.out).mono ?_); rintro e w' ⟨rfl, ⟨nd, rfl⟩⟩; refine ⟨_, rfl, ?_⟩))
    go_roundg k1
    case measure => have := HK1.out; omega
    case rel => exact ⟨(wrap64 (x7_1 + t103)), (wrap64 (x16_1 + 1)), (by first | rfl | (simp; done) | (simp [*]; done)), (by first | rfl | (simp; done) | (simp [*]; done)), H', ⟨by have := HK1.out; omega⟩, by repeat (first | exact Drawn0.refl _ | apply Drawn0.step)⟩
   ·
    rw [if_neg c5] at H
    have c5b0 : decide (x16_1 < (wrap64 (a1 - 1))) = false := decide_eq_false c5
    clear c5
    obtain rfl := Option.some.inj H
    go_wp2
    go_ret
    exact ⟨by first | rfl | (simp; done) | (simp [*]; done), by repeat (first | exact Drawn0.refl _ | apply Drawn0.step)⟩
end Go.Proofs.YtoncignjcgjhhaaDoor.Q
namespace Go.Proofs.YtoncignjcgjhhaaDoor.Q
open Go.RowKit Go.Proofs.YtoncignjcgjhhaaDoorW.PrintWords Go.Proofs.YtoncignjcgjhhaaDoorW.PrintLast Go.Proofs.YtoncignjcgjhhaaDoorW.PrintMore
attribute [local go_sem] max2_int min2_int max_two min_two max_three min_three max_four min_four   -- for this text's walks alone
def date_Of.f (k : Nat) (a0 : Int) (a1 : Int) (a2 : Int) : Option (Int × Int) := (date_month.f a0 a1).bind fun t104 => (if t104 = true then (if a2 < 1 then (some (0, 50)) else ((date_length.f a0 a1).bind fun t105 => (if a2 > t105 then (some (0, 50)) else ((date_day.f k a0 a1 a2).bind fun t106 => (some (t106, 0)))))) else (some (0, 50)))
theorem date_Of.mono : ∀ a0 a1 a2 k, LeO (date_Of.f k a0 a1 a2) (date_Of.f (k + 1) a0 a1 a2) := by
 intro a0 a1 a2 k
 unfold date_Of.f
 repeat' first
   | (with_reducible exact date_day.mono _ _ _ _)
   | (with_reducible exact LeO.refl _)
   | (with_reducible exact LeO.none _)
   | (with_reducible refine LeO.ite ?_ ?_)
   | (with_reducible refine LeO.bind ?_ (fun _ => ?_))
   | exact date_day.mono _ _ _ _
   | exact LeO.none _
   | refine LeO.ite ?_ ?_
   | refine LeO.bind ?_ (fun _ => ?_)
set_option maxHeartbeats 8000000 in
set_option maxRecDepth 100000 in
theorem date_Of.calls (k : Nat) (a0 : Int) (a1 : Int) (a2 : Int) (r1 : Int) (r2 : Int) (w : World) (h : date_Of.f k a0 a1 a2 = some (r1, r2)) :
  Calls Tryd.prog 21 #[.int .i64 a0, .int .i64 a1, .int .i64 a2] w fun e w' => e = .returned (.tuple #[.int .i64 r1, .int .i64 r2]) ∧ Drawn0 w w' := by
 have H : ((date_month.f a0 a1).bind fun t104 => (if t104 = true then (if a2 < 1 then (some (0, 50)) else ((date_length.f a0 a1).bind fun t105 => (if a2 > t105 then (some (0, 50)) else ((date_day.f k a0 a1 a2).bind fun t106 => (some (t106, 0)))))) else (some (0, 50)))) = some (r1, r2) := h
 clear h;replace H := Option.bind_eq_some_iff.mp H
 obtain ⟨t104, A40, H⟩ := H
 replace H : (if t104 = true then (if a2 < 1 then (some (0, 50)) else ((date_length.f a0 a1).bind fun t105 => (if a2 > t105 then (some (0, 50)) else ((date_day.f k a0 a1 a2).bind fun t106 => (some (t106, 0)))))) else (some (0, 50))) = some (r1, r2) := H
 have A4 := Aside0.mk A40;clear A40
 by_cases c5 : t104 = true
 ·
  subst c5
  have H1 : (if a2 < 1 then (some (0, 50)) else ((date_length.f a0 a1).bind fun t105 => (if a2 > t105 then (some (0, 50)) else ((date_day.f k a0 a1 a2).bind fun t106 => (some (t106, 0)))))) = some (r1, r2) := by rw [if_pos rfl] at H; exact H
  clear H;have H := H1;clear H1
  by_cases c6 : a2 < 1
  ·
   rw [if_pos c6] at H
   have c6b0 : decide (a2 < 1) = true := decide_eq_true c6
   clear c6
   simp only [Option.some.injEq, Prod.mk.injEq] at H
   obtain ⟨rfl, rfl⟩ := H
   go_enter Tryd.func21, Tryd.ntmps21
   go_wp2_with (first | ((with_reducible refine gate_callee (f := 32) rfl ?_); refine goesL_ (some 10) rfl rfl Tryd.func32 (by kernel_rfl) rfl #[.int .i64 a0, .int .i64 a1] rfl (by (try simp only [List.map_toArray, List.map_cons, List.map_nil]); first | done | rfl | (simp only [List.length_drop, List.length_take]; rfl)) ?_; (with_reducible refine (date_month.calls a0 a1 true _ A4.out).mono ?_); rintro e w' ⟨rfl, ⟨nd, rfl⟩⟩; refine ⟨_, rfl, ?_⟩))
   go_ret2
   exact ⟨by first | rfl | (simp; done) | (simp [*]; done), by repeat (first | exact Drawn0.refl _ | apply Drawn0.step)⟩
  ·
   rw [if_neg c6] at H
   have c6b0 : decide (a2 < 1) = false := decide_eq_false c6
   clear c6;replace H := Option.bind_eq_some_iff.mp H
   obtain ⟨t105, A70, H⟩ := H
   replace H : (if a2 > t105 then (some (0, 50)) else ((date_day.f k a0 a1 a2).bind fun t106 => (some (t106, 0)))) = some (r1, r2) := H
   have A7 := Aside0.mk A70;clear A70
   by_cases c8 : a2 > t105
   ·
    rw [if_pos c8] at H
    have c8b0 : decide (t105 < a2) = true := decide_eq_true c8
    clear c8
    simp only [Option.some.injEq, Prod.mk.injEq] at H
    obtain ⟨rfl, rfl⟩ := H
    go_enter Tryd.func21, Tryd.ntmps21
    go_wp2_with (first | ((with_reducible refine gate_callee (f := 32) rfl ?_); refine goesL_ (some 10) rfl rfl Tryd.func32 (by kernel_rfl) rfl #[.int .i64 a0, .int .i64 a1] rfl (by (try simp only [List.map_toArray, List.map_cons, List.map_nil]); first | done | rfl | (simp only [List.length_drop, List.length_take]; rfl)) ?_; (with_reducible refine (date_month.calls a0 a1 true _ A4.out).mono ?_); rintro e w' ⟨rfl, ⟨nd, rfl⟩⟩; refine ⟨_, rfl, ?_⟩) | (go_at_call 41; (with_reducible refine (date_length.calls a0 a1 t105 _ A7.out).mono ?_); rintro e w' ⟨rfl, ⟨nd, rfl⟩⟩))
    go_ret2
    exact ⟨by first | rfl | (simp; done) | (simp [*]; done), by repeat (first | exact Drawn0.refl _ | apply Drawn0.step)⟩
   ·
    rw [if_neg c8] at H
    have c8b0 : decide (t105 < a2) = false := decide_eq_false c8
    clear c8;replace H := Option.bind_eq_some_iff.mp H
    obtain ⟨t106, A90, H⟩ := H
    replace H : (some (t106, 0)) = some (r1, r2) := H
    have A9 := Aside0.mk A90;clear A90
    simp only [Option.some.injEq, Prod.mk.injEq] at H
    obtain ⟨rfl, rfl⟩ := H
    go_enter Tryd.func21, Tryd.ntmps21
    go_wp2_with (first | ((with_reducible refine gate_callee (f := 32) rfl ?_); refine goesL_ (some 10) rfl rfl Tryd.func32 (by kernel_rfl) rfl #[.int .i64 a0, .int .i64 a1] rfl (by (try simp only [List.map_toArray, List.map_cons, List.map_nil]); first | done | rfl | (simp only [List.length_drop, List.length_take]; rfl)) ?_; (with_reducible refine (date_month.calls a0 a1 true _ A4.out).mono ?_); rintro e w' ⟨rfl, ⟨nd, rfl⟩⟩; refine ⟨_, rfl, ?_⟩) | (go_at_call 41; (with_reducible refine (date_length.calls a0 a1 t105 _ A7.out).mono ?_); rintro e w' ⟨rfl, ⟨nd, rfl⟩⟩) | ((with_reducible refine gate_callee (f := 33) rfl ?_); refine goesL_ (some 26) rfl rfl Tryd.func33 (by kernel_rfl) rfl #[.int .i64 a0, .int .i64 a1, .int .i64 a2] rfl (by (try simp only [List.map_toArray, List.map_cons, List.map_nil]); first | done | rfl | (simp only [List.length_drop, List.length_take]; rfl)) ?_; (with_reducible refine (date_day.calls k a0 a1 a2 t106 _ A9.out).mono ?_); rintro e w' ⟨rfl, ⟨nd, rfl⟩⟩; refine ⟨_, rfl, ?_⟩))
    go_ret2
    exact ⟨by first | rfl | (simp; done) | (simp [*]; done), by repeat (first | exact Drawn0.refl _ | apply Drawn0.step)⟩
 ·
  replace c5 := Bool.eq_false_iff.mpr c5;subst c5
  have H1 : (some (0, 50)) = some (r1, r2) := by rw [if_neg (show ¬ (false = true) by decide)] at H; exact H
  clear H;have H := H1;clear H1
  simp only [Option.some.injEq, Prod.mk.injEq] at H
  obtain ⟨rfl, rfl⟩ := H
  go_enter Tryd.func21, Tryd.ntmps21
  go_wp2_with (first | ((with_reducible refine gate_callee (f := 32) rfl ?_); refine goesL_ (some 10) rfl rfl Tryd.func32 (by kernel_rfl) rfl #[.int .i64 a0, .int .i64 a1] rfl (by (try simp only [List.map_toArray, List.map_cons, List.map_nil]); first | done | rfl | (simp only [List.length_drop, List.length_take]; rfl)) ?_; (with_reducible refine (date_month.calls a0 a1 false _ A4.out).mono ?_); rintro e w' ⟨rfl, ⟨nd, rfl⟩⟩; refine ⟨_, rfl, ?_⟩))
  go_ret2
  exact ⟨by first | rfl | (simp; done) | (simp [*]; done), by repeat (first | exact Drawn0.refl _ | apply Drawn0.step)⟩
def strconv_lower.f (a0 : Int) : Option (Int) := some (Go.bits .or .u8 a0 32)
set_option maxHeartbeats 8000000 in
set_option maxRecDepth 100000 in
theorem strconv_lower.calls (a0 : Int) (r : Int) (w : World) (h : strconv_lower.f a0 = some r) :
  Calls Tryd.prog 61 #[.int .u8 a0] w fun e w' => e = .returned (.int .u8 r) ∧ Drawn0 w w' := by
 have H : (some (Go.bits .or .u8 a0 32)) = some r := h
 clear h
 obtain rfl := Option.some.inj H
 go_enter Tryd.func61, Tryd.ntmps61
 go_wp2
 go_ret
 exact ⟨by first | rfl | (simp; done) | (simp [*]; done), by repeat (first | exact Drawn0.refl _ | apply Drawn0.step)⟩
end Go.Proofs.YtoncignjcgjhhaaDoor.Q
namespace Go.Proofs.YtoncignjcgjhhaaDoor.Q
open Go.RowKit Go.Proofs.YtoncignjcgjhhaaDoorW.PrintWords Go.Proofs.YtoncignjcgjhhaaDoorW.PrintLast Go.Proofs.YtoncignjcgjhhaaDoorW.PrintMore
attribute [local go_sem] max2_int min2_int max_two min_two max_three min_three max_four min_four   -- for this text's walks alone
def date_is.f (a0 : Int) : Option (Bool) := if a0 ≥ 0 then (some (decide (a0 ≤ 109572))) else (some false)
set_option maxHeartbeats 8000000 in
set_option maxRecDepth 100000 in
theorem date_is.calls (a0 : Int) (r : Bool) (w : World) (h : date_is.f a0 = some r) :
  Calls Tryd.prog 36 #[.int .i64 a0] w fun e w' => e = .returned (.bool r) ∧ Drawn0 w w' := by
 have H : (if a0 ≥ 0 then (some (decide (a0 ≤ 109572))) else (some false)) = some r := h
 clear h
 by_cases c2 : a0 ≥ 0
 ·
  rw [if_pos c2] at H
  have c2b0 : decide (0 ≤ a0) = true := decide_eq_true c2
  clear c2
  obtain rfl := Option.some.inj H
  go_enter Tryd.func36, Tryd.ntmps36
  go_wp2
  go_ret
  exact ⟨by first | rfl | (simp; done) | (simp [*]; done), by repeat (first | exact Drawn0.refl _ | apply Drawn0.step)⟩
 ·
  rw [if_neg c2] at H
  have c2b0 : decide (0 ≤ a0) = false := decide_eq_false c2
  clear c2
  obtain rfl := Option.some.inj H
  go_enter Tryd.func36, Tryd.ntmps36
  go_wp2
  go_ret
  exact ⟨by first | rfl | (simp; done) | (simp [*]; done), by repeat (first | exact Drawn0.refl _ | apply Drawn0.step)⟩
def date_Weekday.f (a0 : Int) : Option (Int × Int) := (date_is.f a0).bind fun t141 => (if t141 = true then (some (Int.tmod a0 7, 0)) else (some (0, 51)))
set_option maxHeartbeats 8000000 in
set_option maxRecDepth 100000 in
theorem date_Weekday.calls (a0 : Int) (r1 : Int) (r2 : Int) (w : World) (h : date_Weekday.f a0 = some (r1, r2)) :
  Calls Tryd.prog 25 #[.int .i64 a0] w fun e w' => e = .returned (.tuple #[.int .i64 r1, .int .i64 r2]) ∧ Drawn0 w w' := by
 have H : ((date_is.f a0).bind fun t141 => (if t141 = true then (some (Int.tmod a0 7, 0)) else (some (0, 51)))) = some (r1, r2) := h
 clear h;replace H := Option.bind_eq_some_iff.mp H
 obtain ⟨t141, A20, H⟩ := H
 replace H : (if t141 = true then (some (Int.tmod a0 7, 0)) else (some (0, 51))) = some (r1, r2) := H
 have A2 := Aside0.mk A20;clear A20
 by_cases c3 : t141 = true
 ·
  subst c3
  have H1 : (some (Int.tmod a0 7, 0)) = some (r1, r2) := by rw [if_pos rfl] at H; exact H
  clear H;have H := H1;clear H1
  simp only [Option.some.injEq, Prod.mk.injEq] at H
  obtain ⟨rfl, rfl⟩ := H
  go_enter Tryd.func25, Tryd.ntmps25
  go_wp2_with (first | ((with_reducible refine gate_callee (f := 36) rfl ?_); refine goesL_ (some 5) rfl rfl Tryd.func36 (by kernel_rfl) rfl #[.int .i64 a0] rfl (by (try simp only [List.map_toArray, List.map_cons, List.map_nil]); first | done | rfl | (simp only [List.length_drop, List.length_take]; rfl)) ?_; (with_reducible refine (date_is.calls a0 true _ A2.out).mono ?_); rintro e w' ⟨rfl, ⟨nd, rfl⟩⟩; refine ⟨_, rfl, ?_⟩))
  go_ret2
  exact ⟨by first | rfl | (simp; done) | (simp [*]; done), by repeat (first | exact Drawn0.refl _ | apply Drawn0.step)⟩
 ·
  replace c3 := Bool.eq_false_iff.mpr c3;subst c3
  have H1 : (some (0, 51)) = some (r1, r2) := by rw [if_neg (show ¬ (false = true) by decide)] at H; exact H
  clear H;have H := H1;clear H1
  simp only [Option.some.injEq, Prod.mk.injEq] at H
  obtain ⟨rfl, rfl⟩ := H
  go_enter Tryd.func25, Tryd.ntmps25
  go_wp2_with (first | ((with_reducible refine gate_callee (f := 36) rfl ?_); refine goesL_ (some 5) rfl rfl Tryd.func36 (by kernel_rfl) rfl #[.int .i64 a0] rfl (by (try simp only [List.map_toArray, List.map_cons, List.map_nil]); first | done | rfl | (simp only [List.length_drop, List.length_take]; rfl)) ?_; (with_reducible refine (date_is.calls a0 false _ A2.out).mono ?_); rintro e w' ⟨rfl, ⟨nd, rfl⟩⟩; refine ⟨_, rfl, ?_⟩))
  go_ret2
  exact ⟨by first | rfl | (simp; done) | (simp [*]; done), by repeat (first | exact Drawn0.refl _ | apply Drawn0.step)⟩
def date_Length.f (a0 : Int) (a1 : Int) : Option (Int × Int) := (date_month.f a0 a1).bind fun t150 => (if t150 = true then ((date_length.f a0 a1).bind fun t151 => (some (t151, 0))) else (some (0, 50)))
set_option maxHeartbeats 8000000 in
set_option maxRecDepth 100000 in
theorem date_Length.calls (a0 : Int) (a1 : Int) (r1 : Int) (r2 : Int) (w : World) (h : date_Length.f a0 a1 = some (r1, r2)) :
  Calls Tryd.prog 19 #[.int .i64 a0, .int .i64 a1] w fun e w' => e = .returned (.tuple #[.int .i64 r1, .int .i64 r2]) ∧ Drawn0 w w' := by
 have H : ((date_month.f a0 a1).bind fun t150 => (if t150 = true then ((date_length.f a0 a1).bind fun t151 => (some (t151, 0))) else (some (0, 50)))) = some (r1, r2) := h
 clear h;replace H := Option.bind_eq_some_iff.mp H
 obtain ⟨t150, A30, H⟩ := H
 replace H : (if t150 = true then ((date_length.f a0 a1).bind fun t151 => (some (t151, 0))) else (some (0, 50))) = some (r1, r2) := H
 have A3 := Aside0.mk A30;clear A30
 by_cases c4 : t150 = true
 ·
  subst c4
  have H1 : ((date_length.f a0 a1).bind fun t151 => (some (t151, 0))) = some (r1, r2) := by rw [if_pos rfl] at H; exact H
  clear H;have H := H1;clear H1;replace H := Option.bind_eq_some_iff.mp H
  obtain ⟨t151, A50, H⟩ := H
  replace H : (some (t151, 0)) = some (r1, r2) := H
  have A5 := Aside0.mk A50;clear A50
  simp only [Option.some.injEq, Prod.mk.injEq] at H
  obtain ⟨rfl, rfl⟩ := H
  go_enter Tryd.func19, Tryd.ntmps19
  go_wp2_with (first | ((with_reducible refine gate_callee (f := 32) rfl ?_); refine goesL_ (some 8) rfl rfl Tryd.func32 (by kernel_rfl) rfl #[.int .i64 a0, .int .i64 a1] rfl (by (try simp only [List.map_toArray, List.map_cons, List.map_nil]); first | done | rfl | (simp only [List.length_drop, List.length_take]; rfl)) ?_; (with_reducible refine (date_month.calls a0 a1 true _ A3.out).mono ?_); rintro e w' ⟨rfl, ⟨nd, rfl⟩⟩; refine ⟨_, rfl, ?_⟩) | ((with_reducible refine gate_callee (f := 41) rfl ?_); refine goesL_ (some 12) rfl rfl Tryd.func41 (by kernel_rfl) rfl #[.int .i64 a0, .int .i64 a1] rfl (by (try simp only [List.map_toArray, List.map_cons, List.map_nil]); first | done | rfl | (simp only [List.length_drop, List.length_take]; rfl)) ?_; (with_reducible refine (date_length.calls a0 a1 t151 _ A5.out).mono ?_); rintro e w' ⟨rfl, ⟨nd, rfl⟩⟩; refine ⟨_, rfl, ?_⟩))
  go_ret2
  exact ⟨by first | rfl | (simp; done) | (simp [*]; done), by repeat (first | exact Drawn0.refl _ | apply Drawn0.step)⟩
 ·
  replace c4 := Bool.eq_false_iff.mpr c4;subst c4
  have H1 : (some (0, 50)) = some (r1, r2) := by rw [if_neg (show ¬ (false = true) by decide)] at H; exact H
  clear H;have H := H1;clear H1
  simp only [Option.some.injEq, Prod.mk.injEq] at H
  obtain ⟨rfl, rfl⟩ := H
  go_enter Tryd.func19, Tryd.ntmps19
  go_wp2_with (first | ((with_reducible refine gate_callee (f := 32) rfl ?_); refine goesL_ (some 8) rfl rfl Tryd.func32 (by kernel_rfl) rfl #[.int .i64 a0, .int .i64 a1] rfl (by (try simp only [List.map_toArray, List.map_cons, List.map_nil]); first | done | rfl | (simp only [List.length_drop, List.length_take]; rfl)) ?_; (with_reducible refine (date_month.calls a0 a1 false _ A3.out).mono ?_); rintro e w' ⟨rfl, ⟨nd, rfl⟩⟩; refine ⟨_, rfl, ?_⟩))
  go_ret2
  exact ⟨by first | rfl | (simp; done) | (simp [*]; done), by repeat (first | exact Drawn0.refl _ | apply Drawn0.step)⟩
def tenorref5_Leap.f (a0 : Int) : Option (Bool) := if (Int.tmod a0 4) = 0 then (if (Int.tmod a0 100) = 0 then (some ((Int.tmod a0 400) == 0)) else (some true)) else (some ((Int.tmod a0 400) == 0))
set_option maxHeartbeats 8000000 in
set_option maxRecDepth 100000 in
theorem tenorref5_Leap.calls (a0 : Int) (r : Bool) (w : World) (h : tenorref5_Leap.f a0 = some r) :
  Calls Tryd.prog 28 #[.int .i64 a0] w fun e w' => e = .returned (.bool r) ∧ Drawn0 w w' := by
 have H : (if (Int.tmod a0 4) = 0 then (if (Int.tmod a0 100) = 0 then (some ((Int.tmod a0 400) == 0)) else (some true)) else (some ((Int.tmod a0 400) == 0))) = some r := h
 clear h
 by_cases c2 : (Int.tmod a0 4) = 0
 ·
  rw [if_pos c2] at H
  have c2b0 : ((Int.tmod a0 4) == 0) = true := beq_iff_eq.mpr c2
  have c2b1 : ((Int.tmod a0 4) != 0) = false := bne_eq_false_iff_eq.mpr c2
  clear c2
  by_cases c3 : (Int.tmod a0 100) = 0
  ·
   rw [if_pos c3] at H
   have c3b0 : ((Int.tmod a0 100) == 0) = true := beq_iff_eq.mpr c3
   have c3b1 : ((Int.tmod a0 100) != 0) = false := bne_eq_false_iff_eq.mpr c3
   clear c3
   obtain rfl := Option.some.inj H
   go_enter Tryd.func28, Tryd.ntmps28
   go_wp2
   go_ret
   exact ⟨by first | rfl | (simp; done) | (simp [*]; done), by repeat (first | exact Drawn0.refl _ | apply Drawn0.step)⟩
  ·
   rw [if_neg c3] at H
   have c3b0 : ((Int.tmod a0 100) == 0) = false := beq_eq_false_iff_ne.mpr c3
   have c3b1 : ((Int.tmod a0 100) != 0) = true := bne_iff_ne.mpr c3
   obtain rfl := Option.some.inj H
   go_enter Tryd.func28, Tryd.ntmps28
   go_wp2
   go_ret
   exact ⟨by first | rfl | (simp; done) | (simp [*]; done), by repeat (first | exact Drawn0.refl _ | apply Drawn0.step)⟩
 ·
  rw [if_neg c2] at H
  have c2b0 : ((Int.tmod a0 4) == 0) = false := beq_eq_false_iff_ne.mpr c2
  have c2b1 : ((Int.tmod a0 4) != 0) = true := bne_iff_ne.mpr c2
  obtain rfl := Option.some.inj H
  go_enter Tryd.func28, Tryd.ntmps28
  go_wp2
  go_ret
  exact ⟨by first | rfl | (simp; done) | (simp [*]; done), by repeat (first | exact Drawn0.refl _ | apply Drawn0.step)⟩
end Go.Proofs.YtoncignjcgjhhaaDoor.Q
namespace Go.Proofs.YtoncignjcgjhhaaDoor.M
def leap (y : Int) : Bool := decide (y % 4 = 0 ∧ (y % 100 ≠ 0 ∨ y % 400 = 0))
def lp (y : Int) : Int := if leap y = true then 1 else 0
def mlen (y m : Int) : Int := if m = 2 then (if leap y = true then 29 else 28) else if m = 4 then 30 else if m = 6 then 30 else if m = 9 then 30 else if m = 11 then 30 else 31
def before (y : Int) : Int := 365 * (y - 1900) + ((y - 1) / 4 - (y - 1) / 100 + (y - 1) / 400) - 460
def cum (y m : Int) : Int :=
  if m ≤ 1 then 0 else if m = 2 then 31 else
  (if m = 3 then 59 else if m = 4 then 90 else if m = 5 then 120 else if m = 6 then 151 else if m = 7 then 181 else if m = 8 then 212 else if m = 9 then 243 else if m = 10 then 273 else if m = 11 then 304 else if m = 12 then 334 else 365) + lp y
def dayOf (y m d : Int) : Int := before y + cum y m + d - 1
theorem lp_01 (y : Int) : 0 ≤ lp y ∧ lp y ≤ 1 := by unfold lp; split <;> omega
theorem mlen_rng (y m : Int) : 28 ≤ mlen y m ∧ mlen y m ≤ 31 := by unfold mlen; repeat' split <;> omega
theorem mlen_lp (y : Int) : mlen y 2 = 28 + lp y := by unfold mlen lp; simp; split <;> omega
theorem cum_succ (y m : Int) (h1 : 1 ≤ m) (h2 : m ≤ 12) : cum y (m + 1) = cum y m + mlen y m := by
 have hl := mlen_lp y
 have : m = 1 ∨ m = 2 ∨ m = 3 ∨ m = 4 ∨ m = 5 ∨ m = 6 ∨ m = 7 ∨ m = 8 ∨ m = 9 ∨ m = 10 ∨ m = 11 ∨ m = 12 := by omega
 rcases this with rfl | rfl | rfl | rfl | rfl | rfl | rfl | rfl | rfl | rfl | rfl | rfl
 all_goals first | (rw [hl]; simp [cum]; done) | (simp [cum, mlen]; done) | (rw [hl]; simp [cum]; omega) | (simp [cum, mlen]; omega)
theorem before_succ (y : Int) : before (y + 1) = before y + 365 + lp y := by
 unfold before lp leap
 by_cases h : y % 4 = 0 ∧ (y % 100 ≠ 0 ∨ y % 400 = 0)
 ·
  rw [if_pos (by simpa using h)]; omega
 ·
  rw [if_neg (by simpa using h)]; omega
theorem before_1900 : before 1900 = 0 := by decide
theorem before_2200 : before 2200 = 109573 := by decide
theorem before_le {a b : Int} (h : a ≤ b) : before a + 365 * (b - a) ≤ before b := by
  unfold before; omega
theorem before_ge {a b : Int} (h : a ≤ b) : before b ≤ before a + 366 * (b - a) := by
  unfold before; omega
theorem cum_le (y : Int) {a b : Int} (h0 : 1 ≤ a) (h : a ≤ b) (hb : b ≤ 13) : cum y a + 28 * (b - a) ≤ cum y b := by
 have := lp_01 y
 have ha : a = 1 ∨ a = 2 ∨ a = 3 ∨ a = 4 ∨ a = 5 ∨ a = 6 ∨ a = 7 ∨ a = 8 ∨ a = 9 ∨ a = 10 ∨ a = 11 ∨ a = 12 ∨ a = 13 := by omega
 have hb' : b = 1 ∨ b = 2 ∨ b = 3 ∨ b = 4 ∨ b = 5 ∨ b = 6 ∨ b = 7 ∨ b = 8 ∨ b = 9 ∨ b = 10 ∨ b = 11 ∨ b = 12 ∨ b = 13 := by omega
 unfold cum
 rcases ha with rfl | rfl | rfl | rfl | rfl | rfl | rfl | rfl | rfl | rfl | rfl | rfl | rfl <;>
  rcases hb' with rfl | rfl | rfl | rfl | rfl | rfl | rfl | rfl | rfl | rfl | rfl | rfl | rfl <;> simp <;> omega
theorem cum_1 (y : Int) : cum y 1 = 0 := by simp [cum]
theorem cum_13 (y : Int) : cum y 13 = 365 + lp y := by simp [cum]
theorem cum_rng (y m : Int) : 0 ≤ cum y m ∧ cum y m ≤ 366 := by
 have := lp_01 y
 unfold cum; repeat' split
 all_goals omega
def yearOf (n : Int) : Int := if before (1901 + n / 366) ≤ n then 1901 + n / 366 else 1900 + n / 366
def monOf (y d : Int) : Int :=
 if d < cum y 2 then 1 else if d < cum y 3 then 2 else if d < cum y 4 then 3 else if d < cum y 5 then 4 else if d < cum y 6 then 5 else if d < cum y 7 then 6 else
 if d < cum y 8 then 7 else if d < cum y 9 then 8 else if d < cum y 10 then 9 else if d < cum y 11 then 10 else if d < cum y 12 then 11 else 12
theorem yearOf_spec (n : Int) (h0 : 0 ≤ n) (h1 : n ≤ 109572) : 1900 ≤ yearOf n ∧ yearOf n ≤ 2199 ∧ before (yearOf n) ≤ n ∧ n < before (yearOf n + 1) := by
 unfold yearOf
 split
 ·
  rename_i h
  refine ⟨by omega, ?_, h, ?_⟩
  ·
   have := before_2200
   by_cases h2 : 1901 + n / 366 ≤ 2199
   ·
    exact h2
   ·
    have := before_le (a := 2200) (b := 1901 + n / 366) (by omega); omega
  ·
   unfold before; omega
 ·
  rename_i h
  refine ⟨by omega, by omega, ?_, ?_⟩
  ·
   unfold before; omega
  ·
   have e : 1900 + n / 366 + 1 = 1901 + n / 366 := by omega
   rw [e]; omega
theorem monOf_spec (y d : Int) (h0 : 0 ≤ d) (h1 : d < 365 + lp y) : 1 ≤ monOf y d ∧ monOf y d ≤ 12 ∧ cum y (monOf y d) ≤ d ∧ d < cum y (monOf y d + 1) := by
 have c1 := cum_1 y; have c13 := cum_13 y
 unfold monOf
 repeat' split
 all_goals (refine ⟨by omega, by omega, ?_, ?_⟩)
 all_goals first | omega | (rw [c1]; omega) | (show d < cum y 13; omega) | assumption
def civY (n : Int) : Int := yearOf n
def civM (n : Int) : Int := monOf (civY n) (n - before (civY n))
def civD (n : Int) : Int := n - before (civY n) - cum (civY n) (civM n) + 1
def isDate (y m d : Int) : Prop := 1900 ≤ y ∧ y ≤ 2199 ∧ 1 ≤ m ∧ m ≤ 12 ∧ 1 ≤ d ∧ d ≤ mlen y m
theorem civ_spec (n : Int) (h0 : 0 ≤ n) (h1 : n ≤ 109572) : isDate (civY n) (civM n) (civD n) ∧ dayOf (civY n) (civM n) (civD n) = n := by
 obtain ⟨a, b, c, d⟩ := yearOf_spec n h0 h1
 have hs := before_succ (yearOf n)
 obtain ⟨e, f, g, i⟩ := monOf_spec (yearOf n) (n - before (yearOf n)) (by omega) (by omega)
 have hc := cum_succ (yearOf n) _ e f
 refine ⟨⟨a, b, e, f, ?_, ?_⟩, ?_⟩
 ·
  unfold civD civM civY; omega
 ·
  unfold civD civM civY; omega
 ·
  unfold dayOf civD civM civY; omega
theorem day_rng {y m d : Int} (h : isDate y m d) : 0 ≤ dayOf y m d ∧ dayOf y m d ≤ 109572 ∧ before y ≤ dayOf y m d ∧ dayOf y m d < before (y + 1) := by
 obtain ⟨a, b, c, e, f, g⟩ := h
 have h1 := before_1900; have h2 := before_2200
 have h3 := before_le a; have h4 := before_le (show y + 1 ≤ 2200 by omega)
 have h5 := before_succ y
 have h6 := cum_le y (show (1 : Int) ≤ 1 by omega) c (by omega)
 have h7 := cum_le y (show 1 ≤ m + 1 by omega) (show m + 1 ≤ 13 by omega) (by omega)
 have h8 := cum_1 y; have h9 := cum_13 y; have h10 := cum_succ y m c e
 unfold dayOf; omega
theorem year_unique {n y z : Int} (h1 : before y ≤ n) (h2 : n < before (y + 1)) (h3 : before z ≤ n) (h4 : n < before (z + 1)) : y = z := by
 by_cases h : y < z
 ·
  have := before_le (show y + 1 ≤ z by omega); omega
 ·
  by_cases h' : z < y
  ·
   have := before_le (show z + 1 ≤ y by omega); omega
  ·
   omega
theorem mon_unique {y d a b : Int} (a1 : 1 ≤ a) (a2 : a ≤ 12) (b1 : 1 ≤ b) (b2 : b ≤ 12) (h1 : cum y a ≤ d) (h2 : d < cum y (a + 1)) (h3 : cum y b ≤ d) (h4 : d < cum y (b + 1)) : a = b := by
 by_cases h : a < b
 ·
  have := cum_le y (show 1 ≤ a + 1 by omega) (show a + 1 ≤ b by omega) (by omega); omega
 ·
  by_cases h' : b < a
  ·
   have := cum_le y (show 1 ≤ b + 1 by omega) (show b + 1 ≤ a by omega) (by omega); omega
  ·
   omega
theorem civ_unique {y m d n : Int} (h : isDate y m d) (e : dayOf y m d = n) : civY n = y ∧ civM n = m ∧ civD n = d := by
 have hr := day_rng h
 obtain ⟨hd, hn⟩ := civ_spec n (by omega) (by omega)
 have hr2 := day_rng hd
 obtain ⟨a, b, c, f, g, i⟩ := h
 obtain ⟨a', b', c', f', g', i'⟩ := hd
 rw [hn] at hr2; rw [e] at hr
 have ey : civY n = y := year_unique hr2.2.2.1 hr2.2.2.2 hr.2.2.1 hr.2.2.2
 rw [ey] at hn i'
 have s1 := cum_succ y m c f
 have s2 := cum_succ y (civM n) (by omega) (by omega)
 have em : civM n = m := by
  unfold dayOf at hn e
  exact mon_unique (y := y) (d := n - before y) c' f' c f (by omega) (by omega) (by omega) (by omega)
 refine ⟨ey, em, ?_⟩
 rw [em] at hn
 unfold dayOf at hn e; omega
def eT (y : Int) : Int :=
 let a := y % 19; let b := y / 100; let c := y % 100; let d := b / 4; let e := b % 4; let f := (b + 8) / 25; let g := (b - f + 1) / 3
 let h := (19 * a + b - d - g + 15) % 30; let i := c / 4; let k := c % 4; let l := (32 + 2 * e + 2 * i - h - k) % 7; let m := (a + 11 * h + 22 * l) / 451
 h + l - 7 * m + 114
def easterDay (y : Int) : Int := dayOf y (eT y / 31) (eT y % 31 + 1)
instance isDateDec (y m d : Int) : Decidable (isDate y m d) := inferInstanceAs (Decidable (1900 ≤ y ∧ y ≤ 2199 ∧ 1 ≤ m ∧ m ≤ 12 ∧ 1 ≤ d ∧ d ≤ mlen y m))
def easterOk (y : Int) : Bool := decide (isDate y (eT y / 31) (eT y % 31 + 1) ∧ dayOf y 3 22 ≤ easterDay y ∧ easterDay y ≤ dayOf y 4 25 ∧ easterDay y % 7 = 6)
theorem easter_all : ∀ k : Fin 300, easterOk (1900 + (k.val : Int)) = true := by decide +kernel
theorem easter_spec (y : Int) (h0 : 1900 ≤ y) (h1 : y ≤ 2199) : isDate y (eT y / 31) (eT y % 31 + 1) ∧ dayOf y 3 22 ≤ easterDay y ∧ easterDay y ≤ dayOf y 4 25 ∧ easterDay y % 7 = 6 := by
 have h := easter_all ⟨(y - 1900).toNat, by omega⟩
 have e : (1900 : Int) + (((⟨(y - 1900).toNat, by omega⟩ : Fin 300).val : Nat) : Int) = y := by simp; omega
 rw [e] at h
 exact of_decide_eq_true h
structure Rul where
 kind : Int
 month : Int
 day : Int
 n : Int
 wd : Int
 off : Int
 from_ : Int
 to_ : Int
 mv : Int
def yearsOk (r : Rul) : Bool := decide (1900 ≤ r.from_ ∧ r.from_ ≤ 2199 ∧ r.from_ ≤ r.to_ ∧ r.to_ ≤ 2199 ∧ 0 ≤ r.mv ∧ r.mv ≤ 2)
def may (r : Rul) : Bool :=
 if r.kind = 1 then decide (1 ≤ r.month ∧ r.month ≤ 12 ∧ r.n = 0 ∧ r.wd = 0 ∧ r.off = 0 ∧ 1 ≤ r.day ∧ r.day ≤ mlen 2000 r.month) && yearsOk r
 else if r.kind = 2 then decide (r.day = 0 ∧ r.off = 0 ∧ 1 ≤ r.month ∧ r.month ≤ 12 ∧ 0 ≤ r.wd ∧ r.wd ≤ 6 ∧ 1 ≤ r.n ∧ r.n ≤ 5) && yearsOk r
 else if r.kind = 3 then decide (r.month = 0 ∧ r.day = 0 ∧ r.n = 0 ∧ r.wd = 0 ∧ -100 ≤ r.off ∧ r.off ≤ 100) && yearsOk r
 else if r.kind = 4 then decide (r.month = 0 ∧ r.n = 0 ∧ r.wd = 0 ∧ r.off = 0 ∧ r.from_ = 0 ∧ r.to_ = 0 ∧ r.mv = 0 ∧ 0 ≤ r.day ∧ r.day ≤ 109572)
 else false
def chkAt : List Rul → Int → Int × Int
  | [], _ => (0, 0)
  | r :: t, i => if may r = true then chkAt t (i + 1) else (60, i)
def chk (we : Int) (l : List Rul) : Int × Int :=
  if 64 < l.length then (2, 0) else if 0 ≤ we ∧ we ≤ 126 then chkAt l 0 else (60, -1)
theorem chkAt_ok : ∀ (l : List Rul) (i : Int), (chkAt l i).1 = 0 → chkAt l i = (0, 0) ∧ ∀ r ∈ l, may r = true
 | [], _, _ => ⟨rfl, by simp⟩
 | r :: t, i, h => by
  unfold chkAt at h ⊢
  by_cases hm : may r = true
  ·
   rw [if_pos hm] at h ⊢
   obtain ⟨a, b⟩ := chkAt_ok t (i + 1) h
   exact ⟨a, by intro x hx; rcases List.mem_cons.1 hx with rfl | hx; exact hm; exact b x hx⟩
  ·
   rw [if_neg hm] at h; simp at h
theorem chk_ok {we : Int} {l : List Rul} (h : (chk we l).1 = 0) : chk we l = (0, 0) ∧ l.length ≤ 64 ∧ 0 ≤ we ∧ we ≤ 126 ∧ ∀ r ∈ l, may r = true := by
 unfold chk at h ⊢
 by_cases h1 : 64 < l.length
 ·
  rw [if_pos h1] at h; simp at h
 ·
  rw [if_neg h1] at h ⊢
  by_cases h2 : 0 ≤ we ∧ we ≤ 126
  ·
   rw [if_pos h2] at h ⊢
   obtain ⟨a, b⟩ := chkAt_ok l 0 h
   exact ⟨a, by omega, h2.1, h2.2, b⟩
  ·
   rw [if_neg h2] at h; simp at h
def off (we n : Int) : Bool := decide (we / 2 ^ ((n + 7) % 7).toNat % 2 = 1)
def movedF (we n mv : Int) : Nat → Int → Int
  | 0, k => n + k
  | f + 1, k => if off we (n + k) = false then n + k else if mv = 2 ∧ off we (n - k) = false then n - k else movedF we n mv f (k + 1)
def moved (we n mv : Int) : Int := if mv = 0 then n else if off we n = false then n else movedF we n mv 6 1
def nthDay (y m wd k : Int) : Int :=
  let first := dayOf y m 1; let d := (wd - first % 7 + 7) % 7 + 7 * (k - 1)
  if d ≥ mlen y m then first + (d - 7) else first + d
def rday (r : Rul) (y : Int) : Option Int :=
 if r.kind = 1 then (if r.day ≤ mlen y r.month then some (dayOf y r.month r.day) else none)
 else if r.kind = 2 then some (nthDay y r.month r.wd r.n)
 else if r.kind = 3 then some (easterDay y + r.off)
 else if civY r.day = y then some r.day else none
def gives (we : Int) (r : Rul) (y n : Int) : Bool :=
  if r.kind = 4 ∨ (r.from_ ≤ y ∧ y ≤ r.to_) then (match rday r y with | some x => decide (moved we x r.mv = n) | none => false) else false
def hol (we : Int) (l : List Rul) (n : Int) : Bool :=
  l.any fun r => gives we r (civY n - 1) n || gives we r (civY n) n || gives we r (civY n + 1) n
def isOpen (we : Int) (l : List Rul) (n : Int) : Bool := !off we n && !hol we l n
theorem open_near : ∀ we : Fin 127, ∀ s : Fin 7, ∃ k : Fin 7, off (we.val : Int) ((s.val : Int) + (k.val : Int)) = false := by decide +kernel
theorem off_mod (we n m : Int) (h : n % 7 = m % 7) : off we n = off we m := by
  unfold off
  rw [show (n + 7) % 7 = n % 7 from by omega, show (m + 7) % 7 = m % 7 from by omega, h]
theorem off_near (we n : Int) (h0 : 0 ≤ we) (h1 : we ≤ 126) : ∃ k : Int, 0 ≤ k ∧ k ≤ 6 ∧ off we (n + k) = false := by
 obtain ⟨k, hk⟩ := open_near ⟨we.toNat, by omega⟩ ⟨(n % 7).toNat, by omega⟩
 refine ⟨k.val, by omega, by omega, ?_⟩
 rw [← hk]
 rw [show (((⟨we.toNat, by omega⟩ : Fin 127).val : Nat) : Int) = we from by simp; omega]
 apply off_mod
 rw [show (((⟨(n % 7).toNat, by omega⟩ : Fin 7).val : Nat) : Int) = n % 7 from by simp; omega]
 omega
theorem movedF_rng (we n mv : Int) : ∀ (f : Nat) (k : Int), 0 ≤ k → n - (k + f) ≤ movedF we n mv f k ∧ movedF we n mv f k ≤ n + (k + f)
 | 0, k, h => by simp [movedF]; omega
 | f + 1, k, h => by
  have ih := movedF_rng we n mv f (k + 1) (by omega)
  unfold movedF
  split
  ·
   omega
  ·
   split
   ·
    omega
   ·
    push_cast; omega
end Go.Proofs.YtoncignjcgjhhaaDoor.M
namespace Go.Proofs.YtoncignjcgjhhaaDoor.L
open Go.RowKit Go.Proofs.YtoncignjcgjhhaaDoorW.PrintWords Go.Proofs.YtoncignjcgjhhaaDoorW.PrintLast Go.Proofs.YtoncignjcgjhhaaDoorW.PrintMore
open Go.Proofs.YtoncignjcgjhhaaDoor.Q
theorem w64 {x : Int} (h0 : -9223372036854775808 ≤ x) (h1 : x ≤ 9223372036854775807) : wrap64 x = x := by unfold wrap64; omega
theorem td {a b : Int} (h : 0 ≤ a) : Int.tdiv a b = a / b := Int.tdiv_eq_ediv_of_nonneg h
theorem tm {a b : Int} (h : 0 ≤ a) : Int.tmod a b = a % b := Int.tmod_eq_emod_of_nonneg h
theorem tm0 (a b : Int) : Int.tmod a b = 0 ↔ a % b = 0 := ⟨fun h => Int.emod_eq_zero_of_dvd (Int.dvd_of_tmod_eq_zero h), fun h => Int.tmod_eq_zero_of_dvd (Int.dvd_of_emod_eq_zero h)⟩
theorem leap (y : Int) : date_Leap.f y = some (M.leap y) := by
 unfold date_Leap.f M.leap
 simp only [tm0]
 by_cases h4 : y % 4 = 0
 ·
  rw [if_pos h4]
  by_cases h100 : y % 100 = 0
  ·
   rw [if_pos h100]
   by_cases h400 : y % 400 = 0
   ·
    have : Int.tmod y 400 = 0 := (tm0 y 400).2 h400
    simp [h4, h400, this]
   ·
    have : ¬ Int.tmod y 400 = 0 := fun e => h400 ((tm0 y 400).1 e)
    simp [h4, h100, h400, this]
  ·
   rw [if_neg h100]; simp [h4, h100]
 ·
  rw [if_neg h4]; simp [h4]
theorem length (y m : Int) : date_length.f y m = some (M.mlen y m) := by
 unfold date_length.f M.mlen
 rw [leap]
 by_cases h2 : m = 2
 ·
  rw [if_pos h2, if_pos h2]; cases M.leap y <;> rfl
 ·
  rw [if_neg h2, if_neg h2]; repeat' split
  all_goals rfl
theorem Length (y m : Int) : date_Length.f y m = some (if 1900 ≤ y ∧ y ≤ 2199 ∧ 1 ≤ m ∧ m ≤ 12 then (M.mlen y m, 0) else (0, 50)) := by
 have hm : date_month.f y m = some (decide (1900 ≤ y ∧ y ≤ 2199 ∧ 1 ≤ m ∧ m ≤ 12)) := by
  unfold date_month.f
  repeat' split
  all_goals first | (congr 1; rw [decide_eq_decide]; omega) | (congr 1; symm; rw [decide_eq_false_iff_not]; omega)
 unfold date_Length.f
 rw [hm, length]
 by_cases h : 1900 ≤ y ∧ y ≤ 2199 ∧ 1 ≤ m ∧ m ≤ 12 <;> simp [h]
theorem before (y : Int) (h0 : 1 ≤ y) (h1 : y ≤ 3000) : date_before.f y = some (M.before y) := by
 unfold date_before.f M.before
 simp (disch := omega) only [w64, td]
theorem day_l (y m n : Int) (hn : -1000000 ≤ n) (hn1 : n ≤ 2000000) (hm : 1 ≤ m) (hm1 : m ≤ 12) : ∀ (d : Nat) (i : Int), 0 ≤ i → i ≤ m - 1 → m - 1 - i = d →
  Ev (fun k => date_day.l0 k y (n + M.cum y (i + 1)) (m - 1) i) (n + M.cum y m)
 | 0, i, a, b, c => by
  refine Ev.step (f := fun _ => some (n + M.cum y m)) (fun k => ?_) (Ev.now _)
  simp only [date_day.l0]
  rw [if_neg (by omega), show i + 1 = m from by omega]
 | d + 1, i, a, b, c => by
  have ih := day_l y m n hn hn1 hm hm1 d (i + 1) (by omega) (by omega) (by omega)
  refine Ev.step (fun k => ?_) ih
  simp only [date_day.l0]
  have r := M.cum_rng y (i + 1)
  have l := M.mlen_rng y (i + 1)
  have s := M.cum_succ y (i + 1) (by omega) (by omega)
  rw [if_pos (by omega), w64 (by omega) (by omega), length]
  simp only [Option.bind_some]
  rw [w64 (by omega) (by omega), show n + M.cum y (i + 1) + M.mlen y (i + 1) = n + M.cum y (i + 1 + 1) from by omega]
theorem before_rng (y : Int) (h0 : 1 ≤ y) (h1 : y ≤ 3000) : -800000 ≤ M.before y ∧ M.before y ≤ 500000 := by unfold M.before; omega
theorem day (y m d : Int) (h0 : 1 ≤ y) (h1 : y ≤ 3000) (hm : 1 ≤ m) (hm1 : m ≤ 12) (hd : -1000 ≤ d) (hd1 : d ≤ 1000) : Ev (fun k => date_day.f k y m d) (M.dayOf y m d) := by
 have hb := before_rng y h0 h1
 have h := day_l y m (M.before y + d - 1) (by omega) (by omega) hm hm1 (m - 1).toNat 0 (by omega) (by omega) (by omega)
 refine Ev.congr (fun k => ?_) (by rw [show M.dayOf y m d = M.before y + d - 1 + M.cum y m from by unfold M.dayOf; omega]; exact h)
 unfold date_day.f
 rw [before y h0 h1]
 simp only [Option.bind_some]
 rw [w64 (x := M.before y + d) (by omega) (by omega), w64 (x := M.before y + d - 1) (by omega) (by omega), w64 (x := m - 1) (by omega) (by omega), show M.cum y (0 + 1) = 0 from M.cum_1 y, Int.add_zero]
theorem Of (y m d : Int) : Ev (fun k => date_Of.f k y m d) (if M.isDate y m d then (M.dayOf y m d, 0) else (0, 50)) := by
 have hm : date_month.f y m = some (decide (1900 ≤ y ∧ y ≤ 2199 ∧ 1 ≤ m ∧ m ≤ 12)) := by
  unfold date_month.f
  repeat' split
  all_goals first | (congr 1; rw [decide_eq_decide]; omega) | (congr 1; symm; rw [decide_eq_false_iff_not]; omega)
 have hl := M.mlen_rng y m
 by_cases h : M.isDate y m d
 ·
  rw [if_pos h]
  obtain ⟨a, b, c, e, f, g⟩ := h
  have hd := day y m d (by omega) (by omega) c e (by omega) (by omega)
  have hd2 := Ev.bind (f := fun _ t => some (t, (0 : Int))) hd (Ev.now _)
  refine Ev.congr (fun k => ?_) hd2
  unfold date_Of.f
  rw [hm, length]
  simp only [Option.bind_some, a, b, c, e, and_self, decide_true, if_true]
  rw [if_neg (by omega), if_neg (by omega)]
 ·
  rw [if_neg h]
  refine Ev.congr (fun k => ?_) (Ev.now _)
  unfold date_Of.f
  rw [hm, length]
  simp only [Option.bind_some]
  by_cases h2 : 1900 ≤ y ∧ y ≤ 2199 ∧ 1 ≤ m ∧ m ≤ 12
  ·
   rw [if_pos (by simp [h2])]
   by_cases h3 : d < 1
   ·
    rw [if_pos h3]
   ·
    rw [if_neg h3, if_pos (by rcases Int.lt_or_le (M.mlen y m) d with h5 | h5; exact h5; exact absurd ⟨h2.1, h2.2.1, h2.2.2.1, h2.2.2.2, by omega, h5⟩ h)]
  ·
   rw [if_neg (by simpa using h2)]
end Go.Proofs.YtoncignjcgjhhaaDoor.L
namespace Go.Proofs.YtoncignjcgjhhaaDoor.H
open Go.RowKit Go.Proofs.YtoncignjcgjhhaaDoorW.PrintWords Go.Proofs.YtoncignjcgjhhaaDoorW.PrintLast Go.Proofs.YtoncignjcgjhhaaDoorW.PrintMore
theorem month_calls (y m : Int) (b : Bool) (hb : decide (1900 ≤ y ∧ y ≤ 2199 ∧ 1 ≤ m ∧ m ≤ 12) = b) (w : World) : Calls Tryd.prog 32 #[.int .i64 y, .int .i64 m] w fun e w' => e = .returned (.bool b) ∧ Drawn0 w w' := by
 refine Q.date_month.calls y m b w ?_
 rw [← hb]
 unfold Q.date_month.f
 repeat' split
 all_goals first | (congr 1; rw [decide_eq_decide]; omega) | (congr 1; symm; rw [decide_eq_false_iff_not]; omega)
theorem day_calls (y m d : Int) (h0 : 1 ≤ y) (h1 : y ≤ 3000) (hm : 1 ≤ m) (hm1 : m ≤ 12) (hd : -1000 ≤ d) (hd1 : d ≤ 1000) (w : World) :
  Calls Tryd.prog 33 #[.int .i64 y, .int .i64 m, .int .i64 d] w fun e w' => e = .returned (.int .i64 (M.dayOf y m d)) ∧ Drawn0 w w' := by
 obtain ⟨k, hk⟩ := (L.day y m d h0 h1 hm hm1 hd hd1).rounds
 exact Q.date_day.calls k y m d _ w hk
theorem easter_day (y m d : Int) (h0 : 1900 ≤ y) (h1 : y ≤ 2199) (em : m = M.eT y / 31) (ed : d = M.eT y % 31 + 1) (w : World) :
  Calls Tryd.prog 33 #[.int .i64 y, .int .i64 m, .int .i64 d] w fun e w' => e = .returned (.int .i64 (M.easterDay y)) ∧ Drawn0 w w' := by
 obtain ⟨⟨a, b, c, e, f, g⟩, _⟩ := M.easter_spec y h0 h1
 have := M.mlen_rng y (M.eT y / 31)
 subst em ed
 exact day_calls _ _ _ (by omega) (by omega) c e (by omega) (by omega) w
theorem m4 (y : Int) : y % 100 % 4 = y % 4 := by omega
set_option maxHeartbeats 1000000 in
set_option maxRecDepth 100000 in
theorem easter_yes (y : Int) (h0 : 1900 ≤ y) (h1 : y ≤ 2199) (w : World) :
  Calls Tryd.prog 12 #[.int .i64 y] w fun e w' => e = .returned (.tuple #[.int .i64 (M.easterDay y), .int .i64 0]) ∧ Drawn0 w w' := by
 go_enter Tryd.func12, Tryd.ntmps12
 go_wp2_with (first | (go_at_call 32; refine (month_calls _ _ true (by simp; omega) _).mono ?_; rintro e w' ⟨rfl, ⟨n, rfl⟩⟩))
 refine (easter_day y _ _ h0 h1 ?_ ?_ _).mono ?_
 ·
  simp only [M.eT, m4]
 ·
  simp only [M.eT, m4]
 rintro e w' ⟨rfl, ⟨n2, rfl⟩⟩
 go_wp2_with fail
 go_ret2
 exact ⟨rfl, by repeat (first | exact Drawn0.refl _ | apply Drawn0.step)⟩
theorem easter_no (y : Int) (h : ¬ (1900 ≤ y ∧ y ≤ 2199)) (w : World) :
  Calls Tryd.prog 12 #[.int .i64 y] w fun e w' => e = .returned (.tuple #[.int .i64 0, .int .i64 50]) ∧ Drawn0 w w' := by
 have H := Aside0.mk h; clear h
 go_enter Tryd.func12, Tryd.ntmps12
 go_wp2_with (first | (go_at_call 32; refine (month_calls _ _ false (by have := H.out; simp; omega) _).mono ?_; rintro e w' ⟨rfl, ⟨n, rfl⟩⟩))
 go_ret2
 exact ⟨rfl, by repeat (first | exact Drawn0.refl _ | apply Drawn0.step)⟩
def easterF (y : Int) : Int × Int := if 1900 ≤ y ∧ y ≤ 2199 then (M.easterDay y, 0) else (0, 50)
theorem easter_calls (y : Int) (w : World) : Calls Tryd.prog 12 #[.int .i64 y] w fun e w' => e = .returned (.tuple #[.int .i64 (easterF y).1, .int .i64 (easterF y).2]) ∧ Drawn0 w w' := by
 unfold easterF
 by_cases h : 1900 ≤ y ∧ y ≤ 2199
 ·
  rw [if_pos h]; exact easter_yes y h.1 h.2 w
 ·
  rw [if_neg h]; exact easter_no y h w
end Go.Proofs.YtoncignjcgjhhaaDoor.H
namespace Go.Proofs.YtoncignjcgjhhaaDoor.Q
open Go.RowKit Go.Proofs.YtoncignjcgjhhaaDoorW.PrintWords Go.Proofs.YtoncignjcgjhhaaDoorW.PrintLast Go.Proofs.YtoncignjcgjhhaaDoorW.PrintMore
attribute [local go_sem] max2_int min2_int max_two min_two max_three min_three max_four min_four   -- for this text's walks alone
def date_Easter.f (a0 : Int) : Option (Int × Int) := some (Go.Proofs.YtoncignjcgjhhaaDoor.H.easterF a0)
theorem date_Easter.calls (a0 : Int) (r1 : Int) (r2 : Int) (w : World) (h : date_Easter.f a0 = some (r1, r2)) :
  Calls Tryd.prog 12 #[.int .i64 a0] w fun e w' => e = .returned (.tuple #[.int .i64 r1, .int .i64 r2]) ∧ Drawn0 w w' := by
 have e := Option.some.inj h;have c := Go.Proofs.YtoncignjcgjhhaaDoor.H.easter_calls a0 w
 rw [e] at c
 exact c
end Go.Proofs.YtoncignjcgjhhaaDoor.Q
