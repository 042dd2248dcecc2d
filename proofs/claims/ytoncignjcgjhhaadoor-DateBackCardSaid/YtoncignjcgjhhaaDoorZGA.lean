/- Contracts and facts of functions of the program (calendar, dates and their documents), joined in one text by a program of this session. No condition but what each theorem states. -/
import Derived.Test.YtoncignjcgjhhaaDoorProg
import Derived.Below
import Derived.Deep.Draws
import Derived.Deep.AppendLies
import Derived.Maps.AppendAt
import Derived.OwnWalk
import Derived.Laws.BytesArg
import Derived.Laws.MakeOwn
import Derived.Laws.OwnMore
import Derived.Deep.OwnRows
import Derived.Tactics
import Derived.Lib.ConvBytes
import Derived.Laws.Slices
import Derived.WalkKit
import Derived.KernelRfl
import Derived.RowKit3
import Derived.Deep.LoopGhost
import Derived.Deep.QuietTactic
import Derived.BigQuiet
import Derived.WideLaws
import Derived.Deep.DeepCutAuto
import Derived.Deep.CutBlock
import Derived.Deep.RegionHeld3
import Derived.Laws.Rows
import Derived.Lib.AppendStr
import Derived.ArgAppend
import Derived.Laws.IdiomCopy
import Derived.OrdersHeld
import Derived.Laws.BitsLemmas
import Derived.RowKit
import Derived.Test.YtoncignjcgjhhaaDoorZW
import Derived.Shelf.Strconv.Atoi
import Derived.Shelf.Strconv.Itoa0
import Derived.Shelf.Strconv.Itoa1
import Derived.Shelf.LaysM
import Derived.Shelf.Strconv.Itoa2
import Derived.Shelf.Strconv.Itoa3
import Derived.Shelf.LaysC
import Derived.Lib.Atoi
import Derived.Laws.RangeAny
import Derived.Lib.OthersKept
import Derived.Lib.AtoiErrMem
import Derived.BigCall
set_option linter.unusedVariables false
set_option linter.unusedSimpArgs false
namespace Go.Proofs.YtoncignjcgjhhaaDoor.Q
open Go.RowKit Go.Proofs.YtoncignjcgjhhaaDoorW.PrintWords Go.Proofs.YtoncignjcgjhhaaDoorW.PrintLast Go.Proofs.YtoncignjcgjhhaaDoorW.PrintMore
attribute [local go_sem] max2_int min2_int max_two min_two max_three min_three max_four min_four   -- for this text's walks alone
def errW : Option Int → Value
  | none => .nilIface
  | some c => .iface 67 (.int .i64 c)
theorem errW_none : errW none = .nilIface := rfl
theorem errW_some (c : Int) : errW (some c) = .iface 67 (.int .i64 c) := rfl
theorem info5 : (Tryd.prog.info? 5).map (fun i => (i.zero, i.size, i.bytes)) = some (some (.int .u8 0), 1, 1) := by kernel_rfl
-- the values' own types
end Go.Proofs.YtoncignjcgjhhaaDoor.Q
namespace Go.Proofs.YtoncignjcgjhhaaDoor.Q
open Go.RowKit Go.Proofs.YtoncignjcgjhhaaDoorW.PrintWords Go.Proofs.YtoncignjcgjhhaaDoorW.PrintLast Go.Proofs.YtoncignjcgjhhaaDoorW.PrintMore
attribute [local go_sem] max2_int min2_int max_two min_two max_three min_three max_four min_four   -- for this text's walks alone
def date_month.f (a0 : Int) (a1 : Int) : Option (Bool) := if a0 ≥ 1900 then (if a0 ≤ 2199 then (if a1 ≥ 1 then (some (decide (a1 ≤ 12))) else (some false)) else (some false)) else (some false)
set_option maxHeartbeats 8000000 in
set_option maxRecDepth 100000 in
theorem date_month.calls (a0 : Int) (a1 : Int) (r : Bool) (w : World) (h : date_month.f a0 a1 = some r) :
  Calls Tryd.prog 32 #[.int .i64 a0, .int .i64 a1] w fun e w' => e = .returned (.bool r) ∧ Drawn0 w w' := by
 have H : (if a0 ≥ 1900 then (if a0 ≤ 2199 then (if a1 ≥ 1 then (some (decide (a1 ≤ 12))) else (some false)) else (some false)) else (some false)) = some r := h
 clear h
 by_cases c3 : a0 ≥ 1900
 ·
  rw [if_pos c3] at H
  have c3b0 : decide (1900 ≤ a0) = true := decide_eq_true c3
  clear c3
  by_cases c4 : a0 ≤ 2199
  ·
   rw [if_pos c4] at H
   have c4b0 : decide (a0 ≤ 2199) = true := decide_eq_true c4
   clear c4
   by_cases c5 : a1 ≥ 1
   ·
    rw [if_pos c5] at H
    have c5b0 : decide (1 ≤ a1) = true := decide_eq_true c5
    clear c5
    obtain rfl := Option.some.inj H
    go_enter Tryd.func32, Tryd.ntmps32
    go_wp2
    go_ret
    exact ⟨by first | rfl | (simp; done) | (simp [*]; done), by repeat (first | exact Drawn0.refl _ | apply Drawn0.step)⟩
   ·
    rw [if_neg c5] at H
    have c5b0 : decide (1 ≤ a1) = false := decide_eq_false c5
    clear c5
    obtain rfl := Option.some.inj H
    go_enter Tryd.func32, Tryd.ntmps32
    go_wp2
    go_ret
    exact ⟨by first | rfl | (simp; done) | (simp [*]; done), by repeat (first | exact Drawn0.refl _ | apply Drawn0.step)⟩
  ·
   rw [if_neg c4] at H
   have c4b0 : decide (a0 ≤ 2199) = false := decide_eq_false c4
   clear c4
   obtain rfl := Option.some.inj H
   go_enter Tryd.func32, Tryd.ntmps32
   go_wp2
   go_ret
   exact ⟨by first | rfl | (simp; done) | (simp [*]; done), by repeat (first | exact Drawn0.refl _ | apply Drawn0.step)⟩
 ·
  rw [if_neg c3] at H
  have c3b0 : decide (1900 ≤ a0) = false := decide_eq_false c3
  clear c3
  obtain rfl := Option.some.inj H
  go_enter Tryd.func32, Tryd.ntmps32
  go_wp2
  go_ret
  exact ⟨by first | rfl | (simp; done) | (simp [*]; done), by repeat (first | exact Drawn0.refl _ | apply Drawn0.step)⟩
def date_Leap.f (a0 : Int) : Option (Bool) := if (Int.tmod a0 4) = 0 then (if (Int.tmod a0 100) = 0 then (some ((Int.tmod a0 400) == 0)) else (some true)) else (some false)
set_option maxHeartbeats 8000000 in
set_option maxRecDepth 100000 in
theorem date_Leap.calls (a0 : Int) (r : Bool) (w : World) (h : date_Leap.f a0 = some r) :
  Calls Tryd.prog 27 #[.int .i64 a0] w fun e w' => e = .returned (.bool r) ∧ Drawn0 w w' := by
 have H : (if (Int.tmod a0 4) = 0 then (if (Int.tmod a0 100) = 0 then (some ((Int.tmod a0 400) == 0)) else (some true)) else (some false)) = some r := h
 clear h
 by_cases c2 : (Int.tmod a0 4) = 0
 ·
  rw [if_pos c2] at H
  have c2b0 : ((Int.tmod a0 4) == 0) = true := beq_iff_eq.mpr c2
  have c2b1 : ((Int.tmod a0 4) != 0) = false := bne_eq_false_iff_eq.mpr c2
  clear c2
  by_cases c3 : (Int.tmod a0 100) = 0
  ·
   rw [if_pos c3] at H
   have c3b0 : ((Int.tmod a0 100) == 0) = true := beq_iff_eq.mpr c3
   have c3b1 : ((Int.tmod a0 100) != 0) = false := bne_eq_false_iff_eq.mpr c3
   clear c3
   obtain rfl := Option.some.inj H
   go_enter Tryd.func27, Tryd.ntmps27
   go_wp2
   go_ret
   exact ⟨by first | rfl | (simp; done) | (simp [*]; done), by repeat (first | exact Drawn0.refl _ | apply Drawn0.step)⟩
  ·
   rw [if_neg c3] at H
   have c3b0 : ((Int.tmod a0 100) == 0) = false := beq_eq_false_iff_ne.mpr c3
   have c3b1 : ((Int.tmod a0 100) != 0) = true := bne_iff_ne.mpr c3
   obtain rfl := Option.some.inj H
   go_enter Tryd.func27, Tryd.ntmps27
   go_wp2
   go_ret
   exact ⟨by first | rfl | (simp; done) | (simp [*]; done), by repeat (first | exact Drawn0.refl _ | apply Drawn0.step)⟩
 ·
  rw [if_neg c2] at H
  have c2b0 : ((Int.tmod a0 4) == 0) = false := beq_eq_false_iff_ne.mpr c2
  have c2b1 : ((Int.tmod a0 4) != 0) = true := bne_iff_ne.mpr c2
  obtain rfl := Option.some.inj H
  go_enter Tryd.func27, Tryd.ntmps27
  go_wp2
  go_ret
  exact ⟨by first | rfl | (simp; done) | (simp [*]; done), by repeat (first | exact Drawn0.refl _ | apply Drawn0.step)⟩
def date_length.f (a0 : Int) (a1 : Int) : Option (Int) := if a1 = 2 then ((date_Leap.f a0).bind fun t101 => (if t101 = true then (some 29) else (some 28))) else (if a1 = 4 then (some 30) else (if a1 = 6 then (some 30) else (if a1 = 9 then (some 30) else (if a1 = 11 then (some 30) else (some 31)))))
set_option maxHeartbeats 8000000 in
set_option maxRecDepth 100000 in
theorem date_length.calls (a0 : Int) (a1 : Int) (r : Int) (w : World) (h : date_length.f a0 a1 = some r) :
  Calls Tryd.prog 41 #[.int .i64 a0, .int .i64 a1] w fun e w' => e = .returned (.int .i64 r) ∧ Drawn0 w w' := by
 have H : (if a1 = 2 then ((date_Leap.f a0).bind fun t101 => (if t101 = true then (some 29) else (some 28))) else (if a1 = 4 then (some 30) else (if a1 = 6 then (some 30) else (if a1 = 9 then (some 30) else (if a1 = 11 then (some 30) else (some 31)))))) = some r := h
 clear h
 by_cases c3 : a1 = 2
 ·
  rw [if_pos c3] at H
  have c3b0 : (a1 == 2) = true := beq_iff_eq.mpr c3
  have c3b1 : (a1 != 2) = false := bne_eq_false_iff_eq.mpr c3
  clear c3;replace H := Option.bind_eq_some_iff.mp H
  obtain ⟨t101, A40, H⟩ := H
  replace H : (if t101 = true then (some 29) else (some 28)) = some r := H
  have A4 := Aside0.mk A40;clear A40
  by_cases c5 : t101 = true
  ·
   subst c5
   have H1 : (some 29) = some r := by rw [if_pos rfl] at H; exact H
   clear H;have H := H1;clear H1
   obtain rfl := Option.some.inj H
   go_enter Tryd.func41, Tryd.ntmps41
   go_wp2_with (first | ((with_reducible refine gate_callee (f := 27) rfl ?_); refine goesL_ (some 9) rfl rfl Tryd.func27 (by kernel_rfl) rfl #[.int .i64 a0] rfl (by (try simp only [List.map_toArray, List.map_cons, List.map_nil]); first | done | rfl | (simp only [List.length_drop, List.length_take]; rfl)) ?_; (with_reducible refine (date_Leap.calls a0 true _ A4.out).mono ?_); rintro e w' ⟨rfl, ⟨nd, rfl⟩⟩; refine ⟨_, rfl, ?_⟩))
   go_ret
   exact ⟨by first | rfl | (simp; done) | (simp [*]; done), by repeat (first | exact Drawn0.refl _ | apply Drawn0.step)⟩
  ·
   replace c5 := Bool.eq_false_iff.mpr c5;subst c5
   have H1 : (some 28) = some r := by rw [if_neg (show ¬ (false = true) by decide)] at H; exact H
   clear H;have H := H1;clear H1
   obtain rfl := Option.some.inj H
   go_enter Tryd.func41, Tryd.ntmps41
   go_wp2_with (first | ((with_reducible refine gate_callee (f := 27) rfl ?_); refine goesL_ (some 9) rfl rfl Tryd.func27 (by kernel_rfl) rfl #[.int .i64 a0] rfl (by (try simp only [List.map_toArray, List.map_cons, List.map_nil]); first | done | rfl | (simp only [List.length_drop, List.length_take]; rfl)) ?_; (with_reducible refine (date_Leap.calls a0 false _ A4.out).mono ?_); rintro e w' ⟨rfl, ⟨nd, rfl⟩⟩; refine ⟨_, rfl, ?_⟩))
   go_ret
   exact ⟨by first | rfl | (simp; done) | (simp [*]; done), by repeat (first | exact Drawn0.refl _ | apply Drawn0.step)⟩
 ·
  rw [if_neg c3] at H
  have c3b0 : (a1 == 2) = false := beq_eq_false_iff_ne.mpr c3
  have c3b1 : (a1 != 2) = true := bne_iff_ne.mpr c3
  by_cases c6 : a1 = 4
  ·
   rw [if_pos c6] at H
   have c6b0 : (a1 == 4) = true := beq_iff_eq.mpr c6
   have c6b1 : (a1 != 4) = false := bne_eq_false_iff_eq.mpr c6
   clear c6
   obtain rfl := Option.some.inj H
   go_enter Tryd.func41, Tryd.ntmps41
   go_wp2
   go_ret
   exact ⟨by first | rfl | (simp; done) | (simp [*]; done), by repeat (first | exact Drawn0.refl _ | apply Drawn0.step)⟩
  ·
   rw [if_neg c6] at H
   have c6b0 : (a1 == 4) = false := beq_eq_false_iff_ne.mpr c6
   have c6b1 : (a1 != 4) = true := bne_iff_ne.mpr c6
   by_cases c7 : a1 = 6
   ·
    rw [if_pos c7] at H
    have c7b0 : (a1 == 6) = true := beq_iff_eq.mpr c7
    have c7b1 : (a1 != 6) = false := bne_eq_false_iff_eq.mpr c7
    clear c7
    obtain rfl := Option.some.inj H
    go_enter Tryd.func41, Tryd.ntmps41
    go_wp2
    go_ret
    exact ⟨by first | rfl | (simp; done) | (simp [*]; done), by repeat (first | exact Drawn0.refl _ | apply Drawn0.step)⟩
   ·
    rw [if_neg c7] at H
    have c7b0 : (a1 == 6) = false := beq_eq_false_iff_ne.mpr c7
    have c7b1 : (a1 != 6) = true := bne_iff_ne.mpr c7
    by_cases c8 : a1 = 9
    ·
     rw [if_pos c8] at H
     have c8b0 : (a1 == 9) = true := beq_iff_eq.mpr c8
     have c8b1 : (a1 != 9) = false := bne_eq_false_iff_eq.mpr c8
     clear c8
     obtain rfl := Option.some.inj H
     go_enter Tryd.func41, Tryd.ntmps41
     go_wp2
     go_ret
     exact ⟨by first | rfl | (simp; done) | (simp [*]; done), by repeat (first | exact Drawn0.refl _ | apply Drawn0.step)⟩
    ·
     rw [if_neg c8] at H
     have c8b0 : (a1 == 9) = false := beq_eq_false_iff_ne.mpr c8
     have c8b1 : (a1 != 9) = true := bne_iff_ne.mpr c8
     by_cases c9 : a1 = 11
     ·
      rw [if_pos c9] at H
      have c9b0 : (a1 == 11) = true := beq_iff_eq.mpr c9
      have c9b1 : (a1 != 11) = false := bne_eq_false_iff_eq.mpr c9
      clear c9
      obtain rfl := Option.some.inj H
      go_enter Tryd.func41, Tryd.ntmps41
      go_wp2
      go_ret
      exact ⟨by first | rfl | (simp; done) | (simp [*]; done), by repeat (first | exact Drawn0.refl _ | apply Drawn0.step)⟩
     ·
      rw [if_neg c9] at H
      have c9b0 : (a1 == 11) = false := beq_eq_false_iff_ne.mpr c9
      have c9b1 : (a1 != 11) = true := bne_iff_ne.mpr c9
      obtain rfl := Option.some.inj H
      go_enter Tryd.func41, Tryd.ntmps41
      go_wp2
      go_ret
      exact ⟨by first | rfl | (simp; done) | (simp [*]; done), by repeat (first | exact Drawn0.refl _ | apply Drawn0.step)⟩
def date_before.f (a0 : Int) : Option (Int) := some (wrap64 ((wrap64 ((wrap64 (365 * (wrap64 (a0 - 1900)))) + (wrap64 ((wrap64 ((wrap64 (Int.tdiv (wrap64 (a0 - 1)) 4)) - (wrap64 (Int.tdiv (wrap64 (a0 - 1)) 100)))) + (wrap64 (Int.tdiv (wrap64 (a0 - 1)) 400)))))) - 460))
set_option maxHeartbeats 8000000 in
set_option maxRecDepth 100000 in
theorem date_before.calls (a0 : Int) (r : Int) (w : World) (h : date_before.f a0 = some r) :
  Calls Tryd.prog 44 #[.int .i64 a0] w fun e w' => e = .returned (.int .i64 r) ∧ Drawn0 w w' := by
 have H : (some (wrap64 ((wrap64 ((wrap64 (365 * (wrap64 (a0 - 1900)))) + (wrap64 ((wrap64 ((wrap64 (Int.tdiv (wrap64 (a0 - 1)) 4)) - (wrap64 (Int.tdiv (wrap64 (a0 - 1)) 100)))) + (wrap64 (Int.tdiv (wrap64 (a0 - 1)) 400)))))) - 460))) = some r := h
 clear h
 obtain rfl := Option.some.inj H
 go_enter Tryd.func44, Tryd.ntmps44
 go_wp2
 go_ret
 exact ⟨by first | rfl | (simp; done) | (simp [*]; done), by repeat (first | exact Drawn0.refl _ | apply Drawn0.step)⟩
def date_day.l0 : Nat → Int → Int → Int → Int → Option (Int)
  | 0, _, _, _, _ => none
  | k + 1, x0, x7, x15, x16 => if x16 < x15 then ((date_length.f x0 (wrap64 (x16 + 1))).bind fun t103 => (date_day.l0 k x0 (wrap64 (x7 + t103)) x15 (wrap64 (x16 + 1)))) else (some x7)
def date_day.f (k : Nat) (a0 : Int) (a1 : Int) (a2 : Int) : Option (Int) := (date_before.f a0).bind fun t102 => (date_day.l0 k a0 (wrap64 ((wrap64 (t102 + a2)) - 1)) (wrap64 (a1 - 1)) 0)
theorem date_day.mono_l : ∀ k, (∀ y0 y1 y2 y3, LeO (date_day.l0 k y0 y1 y2 y3) (date_day.l0 (k + 1) y0 y1 y2 y3))
 | 0 => fun _ _ _ _ r h => by simp [date_day.l0] at h
 | k + 1 => by
  have ih0 := date_day.mono_l k
  ·
   intro y0 y1 y2 y3
   unfold date_day.l0
   repeat' first
   | (with_reducible exact ih0 _ _ _ _)
   | (with_reducible exact LeO.refl _)
   | (with_reducible exact LeO.none _)
   | (with_reducible refine LeO.ite ?_ ?_)
   | (with_reducible refine LeO.bind ?_ (fun _ => ?_))
   | exact ih0 _ _ _ _
   | exact LeO.none _
   | refine LeO.ite ?_ ?_
   | refine LeO.bind ?_ (fun _ => ?_)
theorem date_day.mono : ∀ a0 a1 a2 k, LeO (date_day.f k a0 a1 a2) (date_day.f (k + 1) a0 a1 a2) := by
 intro a0 a1 a2 k
 have ih0 := date_day.mono_l k
 unfold date_day.f
 repeat' first
   | (with_reducible exact ih0 _ _ _ _)
   | (with_reducible exact LeO.refl _)
   | (with_reducible exact LeO.none _)
   | (with_reducible refine LeO.ite ?_ ?_)
   | (with_reducible refine LeO.bind ?_ (fun _ => ?_))
   | exact ih0 _ _ _ _
   | exact LeO.none _
   | refine LeO.ite ?_ ?_
   | refine LeO.bind ?_ (fun _ => ?_)
set_option maxHeartbeats 8000000 in
set_option maxRecDepth 100000 in
theorem date_day.calls (k : Nat) (a0 : Int) (a1 : Int) (a2 : Int) (r : Int) (w : World) (h : date_day.f k a0 a1 a2 = some r) :
  Calls Tryd.prog 33 #[.int .i64 a0, .int .i64 a1, .int .i64 a2] w fun e w' => e = .returned (.int .i64 r) ∧ Drawn0 w w' := by
 have H : ((date_before.f a0).bind fun t102 => (date_day.l0 k a0 (wrap64 ((wrap64 (t102 + a2)) - 1)) (wrap64 (a1 - 1)) 0)) = some r := h
 clear h;replace H := Option.bind_eq_some_iff.mp H
 obtain ⟨t102, A40, H⟩ := H
 replace H : (date_day.l0 k a0 (wrap64 ((wrap64 (t102 + a2)) - 1)) (wrap64 (a1 - 1)) 0) = some r := H
 have A4 := Aside0.mk A40;clear A40;have H' := Aside0.mk H;clear H
 go_enter Tryd.func33, Tryd.ntmps33
 go_wp2_with (first | ((with_reducible refine gate_callee (f := 44) rfl ?_); refine goesL_ (some 10) rfl rfl Tryd.func44 (by kernel_rfl) rfl #[.int .i64 a0] rfl (by (try simp only [List.map_toArray, List.map_cons, List.map_nil]); first | done | rfl | (simp only [List.length_drop, List.length_take]; rfl)) ?_; (with_reducible refine (date_before.calls a0 t102 _ A4.out).mono ?_); rintro e w' ⟨rfl, ⟨nd, rfl⟩⟩; refine ⟨_, rfl, ?_⟩))
 go_loopg [7, 16] k (fun kq v7 v16 w' => ∃ (x7_1 : Int) (x16_1 : Int), v7 = .int .i64 x7_1 ∧ v16 = .int .i64 x16_1 ∧ Aside0 (date_day.l0 kq a0 x7_1 (wrap64 (a1 - 1)) x16_1 = some r) ∧ Aside0 (kq ≤ k) ∧ Drawn0 w w')
 case atStart => exact ⟨(wrap64 ((wrap64 (t102 + a2)) - 1)), (0), (by first | rfl | (simp; done) | (simp [*]; done)), (by first | rfl | (simp; done) | (simp [*]; done)), H', ⟨Nat.le_refl _⟩, by repeat (first | exact Drawn0.refl _ | apply Drawn0.step)⟩
 case round =>
  clear H'
  obtain ⟨x7_1, x16_1, rfl, rfl, HA, HK1, ⟨m1, rfl⟩⟩ := hrel
  cases gk with
  | zero => exact absurd HA.out (by simp [date_day.l0])
  | succ k1 =>
   have H := HA.out;clear HA
   simp only [date_day.l0] at H
   by_cases c5 : x16_1 < (wrap64 (a1 - 1))
   ·
    rw [if_pos c5] at H
    have c5b0 : decide (x16_1 < (wrap64 (a1 - 1))) = true := decide_eq_true c5
    clear c5;replace H := Option.bind_eq_some_iff.mp H
    obtain ⟨t103, A60, H⟩ := H
    replace H : (date_day.l0 k1 a0 (wrap64 (x7_1 + t103)) (wrap64 (a1 - 1)) (wrap64 (x16_1 + 1))) = some r := H
    have A6 := Aside0.mk A60;clear A60;have H' := Aside0.mk H;clear H
    go_wp2_with (first | ((with_reducible refine gate_callee (f := 41) rfl ?_); refine goesL_ (some 23) rfl rfl Tryd.func41 (by kernel_rfl) rfl #[.int .i64 a0, .int .i64 (wrap64 (x16_1 + 1))] rfl (by (try simp only [List.map_toArray, List.map_cons, List.map_nil]); first | done | rfl | (simp only [List.length_drop, List.length_take]; rfl)) ?_; (with_reducible refine (date_length.calls a0 (wrap64 (x16_1 + 1)) t103 _ A6.out).mono ?_); rintro e w' ⟨rfl, ⟨nd, rfl⟩⟩; refine ⟨_, rfl, ?_⟩))
    go_roundg k1
    case measure => have := HK1.out; omega
    case rel => exact ⟨(wrap64 (x7_1 + t103)), (wrap64 (x16_1 + 1)), (by first | rfl | (simp; done) | (simp [*]; done)), (by first | rfl | (simp; done) | (simp [*]; done)), H', ⟨by have := HK1.out; omega⟩, by repeat (first | exact Drawn0.refl _ | apply Drawn0.step)⟩
   ·
    rw [if_neg c5] at H
    have c5b0 : decide (x16_1 < (wrap64 (a1 - 1))) = false := decide_eq_false c5
    clear c5
    obtain rfl := Option.some.inj H
    go_wp2
    go_ret
    exact ⟨by first | rfl | (simp; done) | (simp [*]; done), by repeat (first | exact Drawn0.refl _ | apply Drawn0.step)⟩
end Go.Proofs.YtoncignjcgjhhaaDoor.Q
namespace Go.Proofs.YtoncignjcgjhhaaDoor.Q
open Go.RowKit Go.Proofs.YtoncignjcgjhhaaDoorW.PrintWords Go.Proofs.YtoncignjcgjhhaaDoorW.PrintLast Go.Proofs.YtoncignjcgjhhaaDoorW.PrintMore
attribute [local go_sem] max2_int min2_int max_two min_two max_three min_three max_four min_four   -- for this text's walks alone
def date_Of.f (k : Nat) (a0 : Int) (a1 : Int) (a2 : Int) : Option (Int × Int) := (date_month.f a0 a1).bind fun t104 => (if t104 = true then (if a2 < 1 then (some (0, 50)) else ((date_length.f a0 a1).bind fun t105 => (if a2 > t105 then (some (0, 50)) else ((date_day.f k a0 a1 a2).bind fun t106 => (some (t106, 0)))))) else (some (0, 50)))
theorem date_Of.mono : ∀ a0 a1 a2 k, LeO (date_Of.f k a0 a1 a2) (date_Of.f (k + 1) a0 a1 a2) := by
 intro a0 a1 a2 k
 unfold date_Of.f
 repeat' first
   | (with_reducible exact date_day.mono _ _ _ _)
   | (with_reducible exact LeO.refl _)
   | (with_reducible exact LeO.none _)
   | (with_reducible refine LeO.ite ?_ ?_)
   | (with_reducible refine LeO.bind ?_ (fun _ => ?_))
   | exact date_day.mono _ _ _ _
   | exact LeO.none _
   | refine LeO.ite ?_ ?_
   | refine LeO.bind ?_ (fun _ => ?_)
set_option maxHeartbeats 8000000 in
set_option maxRecDepth 100000 in
theorem date_Of.calls (k : Nat) (a0 : Int) (a1 : Int) (a2 : Int) (r1 : Int) (r2 : Int) (w : World) (h : date_Of.f k a0 a1 a2 = some (r1, r2)) :
  Calls Tryd.prog 21 #[.int .i64 a0, .int .i64 a1, .int .i64 a2] w fun e w' => e = .returned (.tuple #[.int .i64 r1, .int .i64 r2]) ∧ Drawn0 w w' := by
 have H : ((date_month.f a0 a1).bind fun t104 => (if t104 = true then (if a2 < 1 then (some (0, 50)) else ((date_length.f a0 a1).bind fun t105 => (if a2 > t105 then (some (0, 50)) else ((date_day.f k a0 a1 a2).bind fun t106 => (some (t106, 0)))))) else (some (0, 50)))) = some (r1, r2) := h
 clear h;replace H := Option.bind_eq_some_iff.mp H
 obtain ⟨t104, A40, H⟩ := H
 replace H : (if t104 = true then (if a2 < 1 then (some (0, 50)) else ((date_length.f a0 a1).bind fun t105 => (if a2 > t105 then (some (0, 50)) else ((date_day.f k a0 a1 a2).bind fun t106 => (some (t106, 0)))))) else (some (0, 50))) = some (r1, r2) := H
 have A4 := Aside0.mk A40;clear A40
 by_cases c5 : t104 = true
 ·
  subst c5
  have H1 : (if a2 < 1 then (some (0, 50)) else ((date_length.f a0 a1).bind fun t105 => (if a2 > t105 then (some (0, 50)) else ((date_day.f k a0 a1 a2).bind fun t106 => (some (t106, 0)))))) = some (r1, r2) := by rw [if_pos rfl] at H; exact H
  clear H;have H := H1;clear H1
  by_cases c6 : a2 < 1
  ·
   rw [if_pos c6] at H
   have c6b0 : decide (a2 < 1) = true := decide_eq_true c6
   clear c6
   simp only [Option.some.injEq, Prod.mk.injEq] at H
   obtain ⟨rfl, rfl⟩ := H
   go_enter Tryd.func21, Tryd.ntmps21
   go_wp2_with (first | ((with_reducible refine gate_callee (f := 32) rfl ?_); refine goesL_ (some 10) rfl rfl Tryd.func32 (by kernel_rfl) rfl #[.int .i64 a0, .int .i64 a1] rfl (by (try simp only [List.map_toArray, List.map_cons, List.map_nil]); first | done | rfl | (simp only [List.length_drop, List.length_take]; rfl)) ?_; (with_reducible refine (date_month.calls a0 a1 true _ A4.out).mono ?_); rintro e w' ⟨rfl, ⟨nd, rfl⟩⟩; refine ⟨_, rfl, ?_⟩))
   go_ret2
   exact ⟨by first | rfl | (simp; done) | (simp [*]; done), by repeat (first | exact Drawn0.refl _ | apply Drawn0.step)⟩
  ·
   rw [if_neg c6] at H
   have c6b0 : decide (a2 < 1) = false := decide_eq_false c6
   clear c6;replace H := Option.bind_eq_some_iff.mp H
   obtain ⟨t105, A70, H⟩ := H
   replace H : (if a2 > t105 then (some (0, 50)) else ((date_day.f k a0 a1 a2).bind fun t106 => (some (t106, 0)))) = some (r1, r2) := H
   have A7 := Aside0.mk A70;clear A70
   by_cases c8 : a2 > t105
   ·
    rw [if_pos c8] at H
    have c8b0 : decide (t105 < a2) = true := decide_eq_true c8
    clear c8
    simp only [Option.some.injEq, Prod.mk.injEq] at H
    obtain ⟨rfl, rfl⟩ := H
    go_enter Tryd.func21, Tryd.ntmps21
    go_wp2_with (first | ((with_reducible refine gate_callee (f := 32) rfl ?_); refine goesL_ (some 10) rfl rfl Tryd.func32 (by kernel_rfl) rfl #[.int .i64 a0, .int .i64 a1] rfl (by (try simp only [List.map_toArray, List.map_cons, List.map_nil]); first | done | rfl | (simp only [List.length_drop, List.length_take]; rfl)) ?_; (with_reducible refine (date_month.calls a0 a1 true _ A4.out).mono ?_); rintro e w' ⟨rfl, ⟨nd, rfl⟩⟩; refine ⟨_, rfl, ?_⟩) | (go_at_call 41; (with_reducible refine (date_length.calls a0 a1 t105 _ A7.out).mono ?_); rintro e w' ⟨rfl, ⟨nd, rfl⟩⟩))
    go_ret2
    exact ⟨by first | rfl | (simp; done) | (simp [*]; done), by repeat (first | exact Drawn0.refl _ | apply Drawn0.step)⟩
   ·
    rw [if_neg c8] at H
    have c8b0 : decide (t105 < a2) = false := decide_eq_false c8
    clear c8;replace H := Option.bind_eq_some_iff.mp H
    obtain ⟨t106, A90, H⟩ := H
    replace H : (some (t106, 0)) = some (r1, r2) := H
    have A9 := Aside0.mk A90;clear A90
    simp only [Option.some.injEq, Prod.mk.injEq] at H
    obtain ⟨rfl, rfl⟩ := H
    go_enter Tryd.func21, Tryd.ntmps21
    go_wp2_with (first | ((with_reducible refine gate_callee (f := 32) rfl ?_); refine goesL_ (some 10) rfl rfl Tryd.func32 (by kernel_rfl) rfl #[.int .i64 a0, .int .i64 a1] rfl (by (try simp only [List.map_toArray, List.map_cons, List.map_nil]); first | done | rfl | (simp only [List.length_drop, List.length_take]; rfl)) ?_; (with_reducible refine (date_month.calls a0 a1 true _ A4.out).mono ?_); rintro e w' ⟨rfl, ⟨nd, rfl⟩⟩; refine ⟨_, rfl, ?_⟩) | (go_at_call 41; (with_reducible refine (date_length.calls a0 a1 t105 _ A7.out).mono ?_); rintro e w' ⟨rfl, ⟨nd, rfl⟩⟩) | ((with_reducible refine gate_callee (f := 33) rfl ?_); refine goesL_ (some 26) rfl rfl Tryd.func33 (by kernel_rfl) rfl #[.int .i64 a0, .int .i64 a1, .int .i64 a2] rfl (by (try simp only [List.map_toArray, List.map_cons, List.map_nil]); first | done | rfl | (simp only [List.length_drop, List.length_take]; rfl)) ?_; (with_reducible refine (date_day.calls k a0 a1 a2 t106 _ A9.out).mono ?_); rintro e w' ⟨rfl, ⟨nd, rfl⟩⟩; refine ⟨_, rfl, ?_⟩))
    go_ret2
    exact ⟨by first | rfl | (simp; done) | (simp [*]; done), by repeat (first | exact Drawn0.refl _ | apply Drawn0.step)⟩
 ·
  replace c5 := Bool.eq_false_iff.mpr c5;subst c5
  have H1 : (some (0, 50)) = some (r1, r2) := by rw [if_neg (show ¬ (false = true) by decide)] at H; exact H
  clear H;have H := H1;clear H1
  simp only [Option.some.injEq, Prod.mk.injEq] at H
  obtain ⟨rfl, rfl⟩ := H
  go_enter Tryd.func21, Tryd.ntmps21
  go_wp2_with (first | ((with_reducible refine gate_callee (f := 32) rfl ?_); refine goesL_ (some 10) rfl rfl Tryd.func32 (by kernel_rfl) rfl #[.int .i64 a0, .int .i64 a1] rfl (by (try simp only [List.map_toArray, List.map_cons, List.map_nil]); first | done | rfl | (simp only [List.length_drop, List.length_take]; rfl)) ?_; (with_reducible refine (date_month.calls a0 a1 false _ A4.out).mono ?_); rintro e w' ⟨rfl, ⟨nd, rfl⟩⟩; refine ⟨_, rfl, ?_⟩))
  go_ret2
  exact ⟨by first | rfl | (simp; done) | (simp [*]; done), by repeat (first | exact Drawn0.refl _ | apply Drawn0.step)⟩
def strconv_lower.f (a0 : Int) : Option (Int) := some (Go.bits .or .u8 a0 32)
set_option maxHeartbeats 8000000 in
set_option maxRecDepth 100000 in
theorem strconv_lower.calls (a0 : Int) (r : Int) (w : World) (h : strconv_lower.f a0 = some r) :
  Calls Tryd.prog 61 #[.int .u8 a0] w fun e w' => e = .returned (.int .u8 r) ∧ Drawn0 w w' := by
 have H : (some (Go.bits .or .u8 a0 32)) = some r := h
 clear h
 obtain rfl := Option.some.inj H
 go_enter Tryd.func61, Tryd.ntmps61
 go_wp2
 go_ret
 exact ⟨by first | rfl | (simp; done) | (simp [*]; done), by repeat (first | exact Drawn0.refl _ | apply Drawn0.step)⟩
end Go.Proofs.YtoncignjcgjhhaaDoor.Q
namespace Go.Proofs.YtoncignjcgjhhaaDoor.Q
open Go.RowKit Go.Proofs.YtoncignjcgjhhaaDoorW.PrintWords Go.Proofs.YtoncignjcgjhhaaDoorW.PrintLast Go.Proofs.YtoncignjcgjhhaaDoorW.PrintMore
attribute [local go_sem] max2_int min2_int max_two min_two max_three min_three max_four min_four   -- for this text's walks alone
def date_is.f (a0 : Int) : Option (Bool) := if a0 ≥ 0 then (some (decide (a0 ≤ 109572))) else (some false)
set_option maxHeartbeats 8000000 in
set_option maxRecDepth 100000 in
theorem date_is.calls (a0 : Int) (r : Bool) (w : World) (h : date_is.f a0 = some r) :
  Calls Tryd.prog 36 #[.int .i64 a0] w fun e w' => e = .returned (.bool r) ∧ Drawn0 w w' := by
 have H : (if a0 ≥ 0 then (some (decide (a0 ≤ 109572))) else (some false)) = some r := h
 clear h
 by_cases c2 : a0 ≥ 0
 ·
  rw [if_pos c2] at H
  have c2b0 : decide (0 ≤ a0) = true := decide_eq_true c2
  clear c2
  obtain rfl := Option.some.inj H
  go_enter Tryd.func36, Tryd.ntmps36
  go_wp2
  go_ret
  exact ⟨by first | rfl | (simp; done) | (simp [*]; done), by repeat (first | exact Drawn0.refl _ | apply Drawn0.step)⟩
 ·
  rw [if_neg c2] at H
  have c2b0 : decide (0 ≤ a0) = false := decide_eq_false c2
  clear c2
  obtain rfl := Option.some.inj H
  go_enter Tryd.func36, Tryd.ntmps36
  go_wp2
  go_ret
  exact ⟨by first | rfl | (simp; done) | (simp [*]; done), by repeat (first | exact Drawn0.refl _ | apply Drawn0.step)⟩
def date_Weekday.f (a0 : Int) : Option (Int × Int) := (date_is.f a0).bind fun t141 => (if t141 = true then (some (Int.tmod a0 7, 0)) else (some (0, 51)))
set_option maxHeartbeats 8000000 in
set_option maxRecDepth 100000 in
theorem date_Weekday.calls (a0 : Int) (r1 : Int) (r2 : Int) (w : World) (h : date_Weekday.f a0 = some (r1, r2)) :
  Calls Tryd.prog 25 #[.int .i64 a0] w fun e w' => e = .returned (.tuple #[.int .i64 r1, .int .i64 r2]) ∧ Drawn0 w w' := by
 have H : ((date_is.f a0).bind fun t141 => (if t141 = true then (some (Int.tmod a0 7, 0)) else (some (0, 51)))) = some (r1, r2) := h
 clear h;replace H := Option.bind_eq_some_iff.mp H
 obtain ⟨t141, A20, H⟩ := H
 replace H : (if t141 = true then (some (Int.tmod a0 7, 0)) else (some (0, 51))) = some (r1, r2) := H
 have A2 := Aside0.mk A20;clear A20
 by_cases c3 : t141 = true
 ·
  subst c3
  have H1 : (some (Int.tmod a0 7, 0)) = some (r1, r2) := by rw [if_pos rfl] at H; exact H
  clear H;have H := H1;clear H1
  simp only [Option.some.injEq, Prod.mk.injEq] at H
  obtain ⟨rfl, rfl⟩ := H
  go_enter Tryd.func25, Tryd.ntmps25
  go_wp2_with (first | ((with_reducible refine gate_callee (f := 36) rfl ?_); refine goesL_ (some 5) rfl rfl Tryd.func36 (by kernel_rfl) rfl #[.int .i64 a0] rfl (by (try simp only [List.map_toArray, List.map_cons, List.map_nil]); first | done | rfl | (simp only [List.length_drop, List.length_take]; rfl)) ?_; (with_reducible refine (date_is.calls a0 true _ A2.out).mono ?_); rintro e w' ⟨rfl, ⟨nd, rfl⟩⟩; refine ⟨_, rfl, ?_⟩))
  go_ret2
  exact ⟨by first | rfl | (simp; done) | (simp [*]; done), by repeat (first | exact Drawn0.refl _ | apply Drawn0.step)⟩
 ·
  replace c3 := Bool.eq_false_iff.mpr c3;subst c3
  have H1 : (some (0, 51)) = some (r1, r2) := by rw [if_neg (show ¬ (false = true) by decide)] at H; exact H
  clear H;have H := H1;clear H1
  simp only [Option.some.injEq, Prod.mk.injEq] at H
  obtain ⟨rfl, rfl⟩ := H
  go_enter Tryd.func25, Tryd.ntmps25
  go_wp2_with (first | ((with_reducible refine gate_callee (f := 36) rfl ?_); refine goesL_ (some 5) rfl rfl Tryd.func36 (by kernel_rfl) rfl #[.int .i64 a0] rfl (by (try simp only [List.map_toArray, List.map_cons, List.map_nil]); first | done | rfl | (simp only [List.length_drop, List.length_take]; rfl)) ?_; (with_reducible refine (date_is.calls a0 false _ A2.out).mono ?_); rintro e w' ⟨rfl, ⟨nd, rfl⟩⟩; refine ⟨_, rfl, ?_⟩))
  go_ret2
  exact ⟨by first | rfl | (simp; done) | (simp [*]; done), by repeat (first | exact Drawn0.refl _ | apply Drawn0.step)⟩
def date_Length.f (a0 : Int) (a1 : Int) : Option (Int × Int) := (date_month.f a0 a1).bind fun t150 => (if t150 = true then ((date_length.f a0 a1).bind fun t151 => (some (t151, 0))) else (some (0, 50)))
set_option maxHeartbeats 8000000 in
set_option maxRecDepth 100000 in
theorem date_Length.calls (a0 : Int) (a1 : Int) (r1 : Int) (r2 : Int) (w : World) (h : date_Length.f a0 a1 = some (r1, r2)) :
  Calls Tryd.prog 19 #[.int .i64 a0, .int .i64 a1] w fun e w' => e = .returned (.tuple #[.int .i64 r1, .int .i64 r2]) ∧ Drawn0 w w' := by
 have H : ((date_month.f a0 a1).bind fun t150 => (if t150 = true then ((date_length.f a0 a1).bind fun t151 => (some (t151, 0))) else (some (0, 50)))) = some (r1, r2) := h
 clear h;replace H := Option.bind_eq_some_iff.mp H
 obtain ⟨t150, A30, H⟩ := H
 replace H : (if t150 = true then ((date_length.f a0 a1).bind fun t151 => (some (t151, 0))) else (some (0, 50))) = some (r1, r2) := H
 have A3 := Aside0.mk A30;clear A30
 by_cases c4 : t150 = true
 ·
  subst c4
  have H1 : ((date_length.f a0 a1).bind fun t151 => (some (t151, 0))) = some (r1, r2) := by rw [if_pos rfl] at H; exact H
  clear H;have H := H1;clear H1;replace H := Option.bind_eq_some_iff.mp H
  obtain ⟨t151, A50, H⟩ := H
  replace H : (some (t151, 0)) = some (r1, r2) := H
  have A5 := Aside0.mk A50;clear A50
  simp only [Option.some.injEq, Prod.mk.injEq] at H
  obtain ⟨rfl, rfl⟩ := H
  go_enter Tryd.func19, Tryd.ntmps19
  go_wp2_with (first | ((with_reducible refine gate_callee (f := 32) rfl ?_); refine goesL_ (some 8) rfl rfl Tryd.func32 (by kernel_rfl) rfl #[.int .i64 a0, .int .i64 a1] rfl (by (try simp only [List.map_toArray, List.map_cons, List.map_nil]); first | done | rfl | (simp only [List.length_drop, List.length_take]; rfl)) ?_; (with_reducible refine (date_month.calls a0 a1 true _ A3.out).mono ?_); rintro e w' ⟨rfl, ⟨nd, rfl⟩⟩; refine ⟨_, rfl, ?_⟩) | ((with_reducible refine gate_callee (f := 41) rfl ?_); refine goesL_ (some 12) rfl rfl Tryd.func41 (by kernel_rfl) rfl #[.int .i64 a0, .int .i64 a1] rfl (by (try simp only [List.map_toArray, List.map_cons, List.map_nil]); first | done | rfl | (simp only [List.length_drop, List.length_take]; rfl)) ?_; (with_reducible refine (date_length.calls a0 a1 t151 _ A5.out).mono ?_); rintro e w' ⟨rfl, ⟨nd, rfl⟩⟩; refine ⟨_, rfl, ?_⟩))
  go_ret2
  exact ⟨by first | rfl | (simp; done) | (simp [*]; done), by repeat (first | exact Drawn0.refl _ | apply Drawn0.step)⟩
 ·
  replace c4 := Bool.eq_false_iff.mpr c4;subst c4
  have H1 : (some (0, 50)) = some (r1, r2) := by rw [if_neg (show ¬ (false = true) by decide)] at H; exact H
  clear H;have H := H1;clear H1
  simp only [Option.some.injEq, Prod.mk.injEq] at H
  obtain ⟨rfl, rfl⟩ := H
  go_enter Tryd.func19, Tryd.ntmps19
  go_wp2_with (first | ((with_reducible refine gate_callee (f := 32) rfl ?_); refine goesL_ (some 8) rfl rfl Tryd.func32 (by kernel_rfl) rfl #[.int .i64 a0, .int .i64 a1] rfl (by (try simp only [List.map_toArray, List.map_cons, List.map_nil]); first | done | rfl | (simp only [List.length_drop, List.length_take]; rfl)) ?_; (with_reducible refine (date_month.calls a0 a1 false _ A3.out).mono ?_); rintro e w' ⟨rfl, ⟨nd, rfl⟩⟩; refine ⟨_, rfl, ?_⟩))
  go_ret2
  exact ⟨by first | rfl | (simp; done) | (simp [*]; done), by repeat (first | exact Drawn0.refl _ | apply Drawn0.step)⟩
def tenorref5_Leap.f (a0 : Int) : Option (Bool) := if (Int.tmod a0 4) = 0 then (if (Int.tmod a0 100) = 0 then (some ((Int.tmod a0 400) == 0)) else (some true)) else (some ((Int.tmod a0 400) == 0))
set_option maxHeartbeats 8000000 in
set_option maxRecDepth 100000 in
theorem tenorref5_Leap.calls (a0 : Int) (r : Bool) (w : World) (h : tenorref5_Leap.f a0 = some r) :
  Calls Tryd.prog 28 #[.int .i64 a0] w fun e w' => e = .returned (.bool r) ∧ Drawn0 w w' := by
 have H : (if (Int.tmod a0 4) = 0 then (if (Int.tmod a0 100) = 0 then (some ((Int.tmod a0 400) == 0)) else (some true)) else (some ((Int.tmod a0 400) == 0))) = some r := h
 clear h
 by_cases c2 : (Int.tmod a0 4) = 0
 ·
  rw [if_pos c2] at H
  have c2b0 : ((Int.tmod a0 4) == 0) = true := beq_iff_eq.mpr c2
  have c2b1 : ((Int.tmod a0 4) != 0) = false := bne_eq_false_iff_eq.mpr c2
  clear c2
  by_cases c3 : (Int.tmod a0 100) = 0
  ·
   rw [if_pos c3] at H
   have c3b0 : ((Int.tmod a0 100) == 0) = true := beq_iff_eq.mpr c3
   have c3b1 : ((Int.tmod a0 100) != 0) = false := bne_eq_false_iff_eq.mpr c3
   clear c3
   obtain rfl := Option.some.inj H
   go_enter Tryd.func28, Tryd.ntmps28
   go_wp2
   go_ret
   exact ⟨by first | rfl | (simp; done) | (simp [*]; done), by repeat (first | exact Drawn0.refl _ | apply Drawn0.step)⟩
  ·
   rw [if_neg c3] at H
   have c3b0 : ((Int.tmod a0 100) == 0) = false := beq_eq_false_iff_ne.mpr c3
   have c3b1 : ((Int.tmod a0 100) != 0) = true := bne_iff_ne.mpr c3
   obtain rfl := Option.some.inj H
   go_enter Tryd.func28, Tryd.ntmps28
   go_wp2
   go_ret
   exact ⟨by first | rfl | (simp; done) | (simp [*]; done), by repeat (first | exact Drawn0.refl _ | apply Drawn0.step)⟩
 ·
  rw [if_neg c2] at H
  have c2b0 : ((Int.tmod a0 4) == 0) = false := beq_eq_false_iff_ne.mpr c2
  have c2b1 : ((Int.tmod a0 4) != 0) = true := bne_iff_ne.mpr c2
  obtain rfl := Option.some.inj H
  go_enter Tryd.func28, Tryd.ntmps28
  go_wp2
  go_ret
  exact ⟨by first | rfl | (simp; done) | (simp [*]; done), by repeat (first | exact Drawn0.refl _ | apply Drawn0.step)⟩
end Go.Proofs.YtoncignjcgjhhaaDoor.Q
namespace Go.Proofs.YtoncignjcgjhhaaDoor.M
def leap (y : Int) : Bool := decide (y % 4 = 0 ∧ (y % 100 ≠ 0 ∨ y % 400 = 0))
def lp (y : Int) : Int := if leap y = true then 1 else 0
def mlen (y m : Int) : Int := if m = 2 then (if leap y = true then 29 else 28) else if m = 4 then 30 else if m = 6 then 30 else if m = 9 then 30 else if m = 11 then 30 else 31
def before (y : Int) : Int := 365 * (y - 1900) + ((y - 1) / 4 - (y - 1) / 100 + (y - 1) / 400) - 460
def cum (y m : Int) : Int :=
  if m ≤ 1 then 0 else if m = 2 then 31 else
  (if m = 3 then 59 else if m = 4 then 90 else if m = 5 then 120 else if m = 6 then 151 else if m = 7 then 181 else if m = 8 then 212 else if m = 9 then 243 else if m = 10 then 273 else if m = 11 then 304 else if m = 12 then 334 else 365) + lp y
def dayOf (y m d : Int) : Int := before y + cum y m + d - 1
theorem lp_01 (y : Int) : 0 ≤ lp y ∧ lp y ≤ 1 := by unfold lp; split <;> omega
theorem mlen_rng (y m : Int) : 28 ≤ mlen y m ∧ mlen y m ≤ 31 := by unfold mlen; repeat' split <;> omega
theorem mlen_lp (y : Int) : mlen y 2 = 28 + lp y := by unfold mlen lp; simp; split <;> omega
theorem cum_succ (y m : Int) (h1 : 1 ≤ m) (h2 : m ≤ 12) : cum y (m + 1) = cum y m + mlen y m := by
 have hl := mlen_lp y
 have : m = 1 ∨ m = 2 ∨ m = 3 ∨ m = 4 ∨ m = 5 ∨ m = 6 ∨ m = 7 ∨ m = 8 ∨ m = 9 ∨ m = 10 ∨ m = 11 ∨ m = 12 := by omega
 rcases this with rfl | rfl | rfl | rfl | rfl | rfl | rfl | rfl | rfl | rfl | rfl | rfl
 all_goals first | (rw [hl]; simp [cum]; done) | (simp [cum, mlen]; done) | (rw [hl]; simp [cum]; omega) | (simp [cum, mlen]; omega)
theorem before_succ (y : Int) : before (y + 1) = before y + 365 + lp y := by
 unfold before lp leap
 by_cases h : y % 4 = 0 ∧ (y % 100 ≠ 0 ∨ y % 400 = 0)
 ·
  rw [if_pos (by simpa using h)]; omega
 ·
  rw [if_neg (by simpa using h)]; omega
theorem before_1900 : before 1900 = 0 := by decide
theorem before_2200 : before 2200 = 109573 := by decide
theorem before_le {a b : Int} (h : a ≤ b) : before a + 365 * (b - a) ≤ before b := by
  unfold before; omega
theorem before_ge {a b : Int} (h : a ≤ b) : before b ≤ before a + 366 * (b - a) := by
  unfold before; omega
theorem cum_le (y : Int) {a b : Int} (h0 : 1 ≤ a) (h : a ≤ b) (hb : b ≤ 13) : cum y a + 28 * (b - a) ≤ cum y b := by
 have := lp_01 y
 have ha : a = 1 ∨ a = 2 ∨ a = 3 ∨ a = 4 ∨ a = 5 ∨ a = 6 ∨ a = 7 ∨ a = 8 ∨ a = 9 ∨ a = 10 ∨ a = 11 ∨ a = 12 ∨ a = 13 := by omega
 have hb' : b = 1 ∨ b = 2 ∨ b = 3 ∨ b = 4 ∨ b = 5 ∨ b = 6 ∨ b = 7 ∨ b = 8 ∨ b = 9 ∨ b = 10 ∨ b = 11 ∨ b = 12 ∨ b = 13 := by omega
 unfold cum
 rcases ha with rfl | rfl | rfl | rfl | rfl | rfl | rfl | rfl | rfl | rfl | rfl | rfl | rfl <;>
  rcases hb' with rfl | rfl | rfl | rfl | rfl | rfl | rfl | rfl | rfl | rfl | rfl | rfl | rfl <;> simp <;> omega
theorem cum_1 (y : Int) : cum y 1 = 0 := by simp [cum]
theorem cum_13 (y : Int) : cum y 13 = 365 + lp y := by simp [cum]
theorem cum_rng (y m : Int) : 0 ≤ cum y m ∧ cum y m ≤ 366 := by
 have := lp_01 y
 unfold cum; repeat' split
 all_goals omega
def yearOf (n : Int) : Int := if before (1901 + n / 366) ≤ n then 1901 + n / 366 else 1900 + n / 366
def monOf (y d : Int) : Int :=
 if d < cum y 2 then 1 else if d < cum y 3 then 2 else if d < cum y 4 then 3 else if d < cum y 5 then 4 else if d < cum y 6 then 5 else if d < cum y 7 then 6 else
 if d < cum y 8 then 7 else if d < cum y 9 then 8 else if d < cum y 10 then 9 else if d < cum y 11 then 10 else if d < cum y 12 then 11 else 12
theorem yearOf_spec (n : Int) (h0 : 0 ≤ n) (h1 : n ≤ 109572) : 1900 ≤ yearOf n ∧ yearOf n ≤ 2199 ∧ before (yearOf n) ≤ n ∧ n < before (yearOf n + 1) := by
 unfold yearOf
 split
 ·
  rename_i h
  refine ⟨by omega, ?_, h, ?_⟩
  ·
   have := before_2200
   by_cases h2 : 1901 + n / 366 ≤ 2199
   ·
    exact h2
   ·
    have := before_le (a := 2200) (b := 1901 + n / 366) (by omega); omega
  ·
   unfold before; omega
 ·
  rename_i h
  refine ⟨by omega, by omega, ?_, ?_⟩
  ·
   unfold before; omega
  ·
   have e : 1900 + n / 366 + 1 = 1901 + n / 366 := by omega
   rw [e]; omega
theorem monOf_spec (y d : Int) (h0 : 0 ≤ d) (h1 : d < 365 + lp y) : 1 ≤ monOf y d ∧ monOf y d ≤ 12 ∧ cum y (monOf y d) ≤ d ∧ d < cum y (monOf y d + 1) := by
 have c1 := cum_1 y; have c13 := cum_13 y
 unfold monOf
 repeat' split
 all_goals (refine ⟨by omega, by omega, ?_, ?_⟩)
 all_goals first | omega | (rw [c1]; omega) | (show d < cum y 13; omega) | assumption
def civY (n : Int) : Int := yearOf n
def civM (n : Int) : Int := monOf (civY n) (n - before (civY n))
def civD (n : Int) : Int := n - before (civY n) - cum (civY n) (civM n) + 1
def isDate (y m d : Int) : Prop := 1900 ≤ y ∧ y ≤ 2199 ∧ 1 ≤ m ∧ m ≤ 12 ∧ 1 ≤ d ∧ d ≤ mlen y m
theorem civ_spec (n : Int) (h0 : 0 ≤ n) (h1 : n ≤ 109572) : isDate (civY n) (civM n) (civD n) ∧ dayOf (civY n) (civM n) (civD n) = n := by
 obtain ⟨a, b, c, d⟩ := yearOf_spec n h0 h1
 have hs := before_succ (yearOf n)
 obtain ⟨e, f, g, i⟩ := monOf_spec (yearOf n) (n - before (yearOf n)) (by omega) (by omega)
 have hc := cum_succ (yearOf n) _ e f
 refine ⟨⟨a, b, e, f, ?_, ?_⟩, ?_⟩
 ·
  unfold civD civM civY; omega
 ·
  unfold civD civM civY; omega
 ·
  unfold dayOf civD civM civY; omega
theorem day_rng {y m d : Int} (h : isDate y m d) : 0 ≤ dayOf y m d ∧ dayOf y m d ≤ 109572 ∧ before y ≤ dayOf y m d ∧ dayOf y m d < before (y + 1) := by
 obtain ⟨a, b, c, e, f, g⟩ := h
 have h1 := before_1900; have h2 := before_2200
 have h3 := before_le a; have h4 := before_le (show y + 1 ≤ 2200 by omega)
 have h5 := before_succ y
 have h6 := cum_le y (show (1 : Int) ≤ 1 by omega) c (by omega)
 have h7 := cum_le y (show 1 ≤ m + 1 by omega) (show m + 1 ≤ 13 by omega) (by omega)
 have h8 := cum_1 y; have h9 := cum_13 y; have h10 := cum_succ y m c e
 unfold dayOf; omega
theorem year_unique {n y z : Int} (h1 : before y ≤ n) (h2 : n < before (y + 1)) (h3 : before z ≤ n) (h4 : n < before (z + 1)) : y = z := by
 by_cases h : y < z
 ·
  have := before_le (show y + 1 ≤ z by omega); omega
 ·
  by_cases h' : z < y
  ·
   have := before_le (show z + 1 ≤ y by omega); omega
  ·
   omega
theorem mon_unique {y d a b : Int} (a1 : 1 ≤ a) (a2 : a ≤ 12) (b1 : 1 ≤ b) (b2 : b ≤ 12) (h1 : cum y a ≤ d) (h2 : d < cum y (a + 1)) (h3 : cum y b ≤ d) (h4 : d < cum y (b + 1)) : a = b := by
 by_cases h : a < b
 ·
  have := cum_le y (show 1 ≤ a + 1 by omega) (show a + 1 ≤ b by omega) (by omega); omega
 ·
  by_cases h' : b < a
  ·
   have := cum_le y (show 1 ≤ b + 1 by omega) (show b + 1 ≤ a by omega) (by omega); omega
  ·
   omega
theorem civ_unique {y m d n : Int} (h : isDate y m d) (e : dayOf y m d = n) : civY n = y ∧ civM n = m ∧ civD n = d := by
 have hr := day_rng h
 obtain ⟨hd, hn⟩ := civ_spec n (by omega) (by omega)
 have hr2 := day_rng hd
 obtain ⟨a, b, c, f, g, i⟩ := h
 obtain ⟨a', b', c', f', g', i'⟩ := hd
 rw [hn] at hr2; rw [e] at hr
 have ey : civY n = y := year_unique hr2.2.2.1 hr2.2.2.2 hr.2.2.1 hr.2.2.2
 rw [ey] at hn i'
 have s1 := cum_succ y m c f
 have s2 := cum_succ y (civM n) (by omega) (by omega)
 have em : civM n = m := by
  unfold dayOf at hn e
  exact mon_unique (y := y) (d := n - before y) c' f' c f (by omega) (by omega) (by omega) (by omega)
 refine ⟨ey, em, ?_⟩
 rw [em] at hn
 unfold dayOf at hn e; omega
def eT (y : Int) : Int :=
 let a := y % 19; let b := y / 100; let c := y % 100; let d := b / 4; let e := b % 4; let f := (b + 8) / 25; let g := (b - f + 1) / 3
 let h := (19 * a + b - d - g + 15) % 30; let i := c / 4; let k := c % 4; let l := (32 + 2 * e + 2 * i - h - k) % 7; let m := (a + 11 * h + 22 * l) / 451
 h + l - 7 * m + 114
def easterDay (y : Int) : Int := dayOf y (eT y / 31) (eT y % 31 + 1)
instance isDateDec (y m d : Int) : Decidable (isDate y m d) := inferInstanceAs (Decidable (1900 ≤ y ∧ y ≤ 2199 ∧ 1 ≤ m ∧ m ≤ 12 ∧ 1 ≤ d ∧ d ≤ mlen y m))
def easterOk (y : Int) : Bool := decide (isDate y (eT y / 31) (eT y % 31 + 1) ∧ dayOf y 3 22 ≤ easterDay y ∧ easterDay y ≤ dayOf y 4 25 ∧ easterDay y % 7 = 6)
theorem easter_all : ∀ k : Fin 300, easterOk (1900 + (k.val : Int)) = true := by decide +kernel
theorem easter_spec (y : Int) (h0 : 1900 ≤ y) (h1 : y ≤ 2199) : isDate y (eT y / 31) (eT y % 31 + 1) ∧ dayOf y 3 22 ≤ easterDay y ∧ easterDay y ≤ dayOf y 4 25 ∧ easterDay y % 7 = 6 := by
 have h := easter_all ⟨(y - 1900).toNat, by omega⟩
 have e : (1900 : Int) + (((⟨(y - 1900).toNat, by omega⟩ : Fin 300).val : Nat) : Int) = y := by simp; omega
 rw [e] at h
 exact of_decide_eq_true h
structure Rul where
 kind : Int
 month : Int
 day : Int
 n : Int
 wd : Int
 off : Int
 from_ : Int
 to_ : Int
 mv : Int
def yearsOk (r : Rul) : Bool := decide (1900 ≤ r.from_ ∧ r.from_ ≤ 2199 ∧ r.from_ ≤ r.to_ ∧ r.to_ ≤ 2199 ∧ 0 ≤ r.mv ∧ r.mv ≤ 2)
def may (r : Rul) : Bool :=
 if r.kind = 1 then decide (1 ≤ r.month ∧ r.month ≤ 12 ∧ r.n = 0 ∧ r.wd = 0 ∧ r.off = 0 ∧ 1 ≤ r.day ∧ r.day ≤ mlen 2000 r.month) && yearsOk r
 else if r.kind = 2 then decide (r.day = 0 ∧ r.off = 0 ∧ 1 ≤ r.month ∧ r.month ≤ 12 ∧ 0 ≤ r.wd ∧ r.wd ≤ 6 ∧ 1 ≤ r.n ∧ r.n ≤ 5) && yearsOk r
 else if r.kind = 3 then decide (r.month = 0 ∧ r.day = 0 ∧ r.n = 0 ∧ r.wd = 0 ∧ -100 ≤ r.off ∧ r.off ≤ 100) && yearsOk r
 else if r.kind = 4 then decide (r.month = 0 ∧ r.n = 0 ∧ r.wd = 0 ∧ r.off = 0 ∧ r.from_ = 0 ∧ r.to_ = 0 ∧ r.mv = 0 ∧ 0 ≤ r.day ∧ r.day ≤ 109572)
 else false
def chkAt : List Rul → Int → Int × Int
  | [], _ => (0, 0)
  | r :: t, i => if may r = true then chkAt t (i + 1) else (60, i)
def chk (we : Int) (l : List Rul) : Int × Int :=
  if 64 < l.length then (2, 0) else if 0 ≤ we ∧ we ≤ 126 then chkAt l 0 else (60, -1)
theorem chkAt_ok : ∀ (l : List Rul) (i : Int), (chkAt l i).1 = 0 → chkAt l i = (0, 0) ∧ ∀ r ∈ l, may r = true
 | [], _, _ => ⟨rfl, by simp⟩
 | r :: t, i, h => by
  unfold chkAt at h ⊢
  by_cases hm : may r = true
  ·
   rw [if_pos hm] at h ⊢
   obtain ⟨a, b⟩ := chkAt_ok t (i + 1) h
   exact ⟨a, by intro x hx; rcases List.mem_cons.1 hx with rfl | hx; exact hm; exact b x hx⟩
  ·
   rw [if_neg hm] at h; simp at h
theorem chk_ok {we : Int} {l : List Rul} (h : (chk we l).1 = 0) : chk we l = (0, 0) ∧ l.length ≤ 64 ∧ 0 ≤ we ∧ we ≤ 126 ∧ ∀ r ∈ l, may r = true := by
 unfold chk at h ⊢
 by_cases h1 : 64 < l.length
 ·
  rw [if_pos h1] at h; simp at h
 ·
  rw [if_neg h1] at h ⊢
  by_cases h2 : 0 ≤ we ∧ we ≤ 126
  ·
   rw [if_pos h2] at h ⊢
   obtain ⟨a, b⟩ := chkAt_ok l 0 h
   exact ⟨a, by omega, h2.1, h2.2, b⟩
  ·
   rw [if_neg h2] at h; simp at h
def off (we n : Int) : Bool := decide (we / 2 ^ ((n + 7) % 7).toNat % 2 = 1)
def movedF (we n mv : Int) : Nat → Int → Int
  | 0, k => n + k
  | f + 1, k => if off we (n + k) = false then n + k else if mv = 2 ∧ off we (n - k) = false then n - k else movedF we n mv f (k + 1)
def moved (we n mv : Int) : Int := if mv = 0 then n else if off we n = false then n else movedF we n mv 6 1
def nthDay (y m wd k : Int) : Int :=
  let first := dayOf y m 1; let d := (wd - first % 7 + 7) % 7 + 7 * (k - 1)
  if d ≥ mlen y m then first + (d - 7) else first + d
def rday (r : Rul) (y : Int) : Option Int :=
 if r.kind = 1 then (if r.day ≤ mlen y r.month then some (dayOf y r.month r.day) else none)
 else if r.kind = 2 then some (nthDay y r.month r.wd r.n)
 else if r.kind = 3 then some (easterDay y + r.off)
 else if civY r.day = y then some r.day else none
def gives (we : Int) (r : Rul) (y n : Int) : Bool :=
  if r.kind = 4 ∨ (r.from_ ≤ y ∧ y ≤ r.to_) then (match rday r y with | some x => decide (moved we x r.mv = n) | none => false) else false
def hol (we : Int) (l : List Rul) (n : Int) : Bool :=
  l.any fun r => gives we r (civY n - 1) n || gives we r (civY n) n || gives we r (civY n + 1) n
def isOpen (we : Int) (l : List Rul) (n : Int) : Bool := !off we n && !hol we l n
theorem open_near : ∀ we : Fin 127, ∀ s : Fin 7, ∃ k : Fin 7, off (we.val : Int) ((s.val : Int) + (k.val : Int)) = false := by decide +kernel
theorem off_mod (we n m : Int) (h : n % 7 = m % 7) : off we n = off we m := by
  unfold off
  rw [show (n + 7) % 7 = n % 7 from by omega, show (m + 7) % 7 = m % 7 from by omega, h]
theorem off_near (we n : Int) (h0 : 0 ≤ we) (h1 : we ≤ 126) : ∃ k : Int, 0 ≤ k ∧ k ≤ 6 ∧ off we (n + k) = false := by
 obtain ⟨k, hk⟩ := open_near ⟨we.toNat, by omega⟩ ⟨(n % 7).toNat, by omega⟩
 refine ⟨k.val, by omega, by omega, ?_⟩
 rw [← hk]
 rw [show (((⟨we.toNat, by omega⟩ : Fin 127).val : Nat) : Int) = we from by simp; omega]
 apply off_mod
 rw [show (((⟨(n % 7).toNat, by omega⟩ : Fin 7).val : Nat) : Int) = n % 7 from by simp; omega]
 omega
theorem movedF_rng (we n mv : Int) : ∀ (f : Nat) (k : Int), 0 ≤ k → n - (k + f) ≤ movedF we n mv f k ∧ movedF we n mv f k ≤ n + (k + f)
 | 0, k, h => by simp [movedF]; omega
 | f + 1, k, h => by
  have ih := movedF_rng we n mv f (k + 1) (by omega)
  unfold movedF
  split
  ·
   omega
  ·
   split
   ·
    omega
   ·
    push_cast; omega
end Go.Proofs.YtoncignjcgjhhaaDoor.M
namespace Go.Proofs.YtoncignjcgjhhaaDoor.L
open Go.RowKit Go.Proofs.YtoncignjcgjhhaaDoorW.PrintWords Go.Proofs.YtoncignjcgjhhaaDoorW.PrintLast Go.Proofs.YtoncignjcgjhhaaDoorW.PrintMore
open Go.Proofs.YtoncignjcgjhhaaDoor.Q
theorem w64 {x : Int} (h0 : -9223372036854775808 ≤ x) (h1 : x ≤ 9223372036854775807) : wrap64 x = x := by unfold wrap64; omega
theorem td {a b : Int} (h : 0 ≤ a) : Int.tdiv a b = a / b := Int.tdiv_eq_ediv_of_nonneg h
theorem tm {a b : Int} (h : 0 ≤ a) : Int.tmod a b = a % b := Int.tmod_eq_emod_of_nonneg h
theorem tm0 (a b : Int) : Int.tmod a b = 0 ↔ a % b = 0 := ⟨fun h => Int.emod_eq_zero_of_dvd (Int.dvd_of_tmod_eq_zero h), fun h => Int.tmod_eq_zero_of_dvd (Int.dvd_of_emod_eq_zero h)⟩
theorem leap (y : Int) : date_Leap.f y = some (M.leap y) := by
 unfold date_Leap.f M.leap
 simp only [tm0]
 by_cases h4 : y % 4 = 0
 ·
  rw [if_pos h4]
  by_cases h100 : y % 100 = 0
  ·
   rw [if_pos h100]
   by_cases h400 : y % 400 = 0
   ·
    have : Int.tmod y 400 = 0 := (tm0 y 400).2 h400
    simp [h4, h400, this]
   ·
    have : ¬ Int.tmod y 400 = 0 := fun e => h400 ((tm0 y 400).1 e)
    simp [h4, h100, h400, this]
  ·
   rw [if_neg h100]; simp [h4, h100]
 ·
  rw [if_neg h4]; simp [h4]
theorem length (y m : Int) : date_length.f y m = some (M.mlen y m) := by
 unfold date_length.f M.mlen
 rw [leap]
 by_cases h2 : m = 2
 ·
  rw [if_pos h2, if_pos h2]; cases M.leap y <;> rfl
 ·
  rw [if_neg h2, if_neg h2]; repeat' split
  all_goals rfl
theorem Length (y m : Int) : date_Length.f y m = some (if 1900 ≤ y ∧ y ≤ 2199 ∧ 1 ≤ m ∧ m ≤ 12 then (M.mlen y m, 0) else (0, 50)) := by
 have hm : date_month.f y m = some (decide (1900 ≤ y ∧ y ≤ 2199 ∧ 1 ≤ m ∧ m ≤ 12)) := by
  unfold date_month.f
  repeat' split
  all_goals first | (congr 1; rw [decide_eq_decide]; omega) | (congr 1; symm; rw [decide_eq_false_iff_not]; omega)
 unfold date_Length.f
 rw [hm, length]
 by_cases h : 1900 ≤ y ∧ y ≤ 2199 ∧ 1 ≤ m ∧ m ≤ 12 <;> simp [h]
theorem before (y : Int) (h0 : 1 ≤ y) (h1 : y ≤ 3000) : date_before.f y = some (M.before y) := by
 unfold date_before.f M.before
 simp (disch := omega) only [w64, td]
theorem day_l (y m n : Int) (hn : -1000000 ≤ n) (hn1 : n ≤ 2000000) (hm : 1 ≤ m) (hm1 : m ≤ 12) : ∀ (d : Nat) (i : Int), 0 ≤ i → i ≤ m - 1 → m - 1 - i = d →
  Ev (fun k => date_day.l0 k y (n + M.cum y (i + 1)) (m - 1) i) (n + M.cum y m)
 | 0, i, a, b, c => by
  refine Ev.step (f := fun _ => some (n + M.cum y m)) (fun k => ?_) (Ev.now _)
  simp only [date_day.l0]
  rw [if_neg (by omega), show i + 1 = m from by omega]
 | d + 1, i, a, b, c => by
  have ih := day_l y m n hn hn1 hm hm1 d (i + 1) (by omega) (by omega) (by omega)
  refine Ev.step (fun k => ?_) ih
  simp only [date_day.l0]
  have r := M.cum_rng y (i + 1)
  have l := M.mlen_rng y (i + 1)
  have s := M.cum_succ y (i + 1) (by omega) (by omega)
  rw [if_pos (by omega), w64 (by omega) (by omega), length]
  simp only [Option.bind_some]
  rw [w64 (by omega) (by omega), show n + M.cum y (i + 1) + M.mlen y (i + 1) = n + M.cum y (i + 1 + 1) from by omega]
theorem before_rng (y : Int) (h0 : 1 ≤ y) (h1 : y ≤ 3000) : -800000 ≤ M.before y ∧ M.before y ≤ 500000 := by unfold M.before; omega
theorem day (y m d : Int) (h0 : 1 ≤ y) (h1 : y ≤ 3000) (hm : 1 ≤ m) (hm1 : m ≤ 12) (hd : -1000 ≤ d) (hd1 : d ≤ 1000) : Ev (fun k => date_day.f k y m d) (M.dayOf y m d) := by
 have hb := before_rng y h0 h1
 have h := day_l y m (M.before y + d - 1) (by omega) (by omega) hm hm1 (m - 1).toNat 0 (by omega) (by omega) (by omega)
 refine Ev.congr (fun k => ?_) (by rw [show M.dayOf y m d = M.before y + d - 1 + M.cum y m from by unfold M.dayOf; omega]; exact h)
 unfold date_day.f
 rw [before y h0 h1]
 simp only [Option.bind_some]
 rw [w64 (x := M.before y + d) (by omega) (by omega), w64 (x := M.before y + d - 1) (by omega) (by omega), w64 (x := m - 1) (by omega) (by omega), show M.cum y (0 + 1) = 0 from M.cum_1 y, Int.add_zero]
theorem Of (y m d : Int) : Ev (fun k => date_Of.f k y m d) (if M.isDate y m d then (M.dayOf y m d, 0) else (0, 50)) := by
 have hm : date_month.f y m = some (decide (1900 ≤ y ∧ y ≤ 2199 ∧ 1 ≤ m ∧ m ≤ 12)) := by
  unfold date_month.f
  repeat' split
  all_goals first | (congr 1; rw [decide_eq_decide]; omega) | (congr 1; symm; rw [decide_eq_false_iff_not]; omega)
 have hl := M.mlen_rng y m
 by_cases h : M.isDate y m d
 ·
  rw [if_pos h]
  obtain ⟨a, b, c, e, f, g⟩ := h
  have hd := day y m d (by omega) (by omega) c e (by omega) (by omega)
  have hd2 := Ev.bind (f := fun _ t => some (t, (0 : Int))) hd (Ev.now _)
  refine Ev.congr (fun k => ?_) hd2
  unfold date_Of.f
  rw [hm, length]
  simp only [Option.bind_some, a, b, c, e, and_self, decide_true, if_true]
  rw [if_neg (by omega), if_neg (by omega)]
 ·
  rw [if_neg h]
  refine Ev.congr (fun k => ?_) (Ev.now _)
  unfold date_Of.f
  rw [hm, length]
  simp only [Option.bind_some]
  by_cases h2 : 1900 ≤ y ∧ y ≤ 2199 ∧ 1 ≤ m ∧ m ≤ 12
  ·
   rw [if_pos (by simp [h2])]
   by_cases h3 : d < 1
   ·
    rw [if_pos h3]
   ·
    rw [if_neg h3, if_pos (by rcases Int.lt_or_le (M.mlen y m) d with h5 | h5; exact h5; exact absurd ⟨h2.1, h2.2.1, h2.2.2.1, h2.2.2.2, by omega, h5⟩ h)]
  ·
   rw [if_neg (by simpa using h2)]
end Go.Proofs.YtoncignjcgjhhaaDoor.L
namespace Go.Proofs.YtoncignjcgjhhaaDoor.H
open Go.RowKit Go.Proofs.YtoncignjcgjhhaaDoorW.PrintWords Go.Proofs.YtoncignjcgjhhaaDoorW.PrintLast Go.Proofs.YtoncignjcgjhhaaDoorW.PrintMore
theorem month_calls (y m : Int) (b : Bool) (hb : decide (1900 ≤ y ∧ y ≤ 2199 ∧ 1 ≤ m ∧ m ≤ 12) = b) (w : World) : Calls Tryd.prog 32 #[.int .i64 y, .int .i64 m] w fun e w' => e = .returned (.bool b) ∧ Drawn0 w w' := by
 refine Q.date_month.calls y m b w ?_
 rw [← hb]
 unfold Q.date_month.f
 repeat' split
 all_goals first | (congr 1; rw [decide_eq_decide]; omega) | (congr 1; symm; rw [decide_eq_false_iff_not]; omega)
theorem day_calls (y m d : Int) (h0 : 1 ≤ y) (h1 : y ≤ 3000) (hm : 1 ≤ m) (hm1 : m ≤ 12) (hd : -1000 ≤ d) (hd1 : d ≤ 1000) (w : World) :
  Calls Tryd.prog 33 #[.int .i64 y, .int .i64 m, .int .i64 d] w fun e w' => e = .returned (.int .i64 (M.dayOf y m d)) ∧ Drawn0 w w' := by
 obtain ⟨k, hk⟩ := (L.day y m d h0 h1 hm hm1 hd hd1).rounds
 exact Q.date_day.calls k y m d _ w hk
theorem easter_day (y m d : Int) (h0 : 1900 ≤ y) (h1 : y ≤ 2199) (em : m = M.eT y / 31) (ed : d = M.eT y % 31 + 1) (w : World) :
  Calls Tryd.prog 33 #[.int .i64 y, .int .i64 m, .int .i64 d] w fun e w' => e = .returned (.int .i64 (M.easterDay y)) ∧ Drawn0 w w' := by
 obtain ⟨⟨a, b, c, e, f, g⟩, _⟩ := M.easter_spec y h0 h1
 have := M.mlen_rng y (M.eT y / 31)
 subst em ed
 exact day_calls _ _ _ (by omega) (by omega) c e (by omega) (by omega) w
theorem m4 (y : Int) : y % 100 % 4 = y % 4 := by omega
set_option maxHeartbeats 1000000 in
set_option maxRecDepth 100000 in
theorem easter_yes (y : Int) (h0 : 1900 ≤ y) (h1 : y ≤ 2199) (w : World) :
  Calls Tryd.prog 12 #[.int .i64 y] w fun e w' => e = .returned (.tuple #[.int .i64 (M.easterDay y), .int .i64 0]) ∧ Drawn0 w w' := by
 go_enter Tryd.func12, Tryd.ntmps12
 go_wp2_with (first | (go_at_call 32; refine (month_calls _ _ true (by simp; omega) _).mono ?_; rintro e w' ⟨rfl, ⟨n, rfl⟩⟩))
 refine (easter_day y _ _ h0 h1 ?_ ?_ _).mono ?_
 ·
  simp only [M.eT, m4]
 ·
  simp only [M.eT, m4]
 rintro e w' ⟨rfl, ⟨n2, rfl⟩⟩
 go_wp2_with fail
 go_ret2
 exact ⟨rfl, by repeat (first | exact Drawn0.refl _ | apply Drawn0.step)⟩
theorem easter_no (y : Int) (h : ¬ (1900 ≤ y ∧ y ≤ 2199)) (w : World) :
  Calls Tryd.prog 12 #[.int .i64 y] w fun e w' => e = .returned (.tuple #[.int .i64 0, .int .i64 50]) ∧ Drawn0 w w' := by
 have H := Aside0.mk h; clear h
 go_enter Tryd.func12, Tryd.ntmps12
 go_wp2_with (first | (go_at_call 32; refine (month_calls _ _ false (by have := H.out; simp; omega) _).mono ?_; rintro e w' ⟨rfl, ⟨n, rfl⟩⟩))
 go_ret2
 exact ⟨rfl, by repeat (first | exact Drawn0.refl _ | apply Drawn0.step)⟩
def easterF (y : Int) : Int × Int := if 1900 ≤ y ∧ y ≤ 2199 then (M.easterDay y, 0) else (0, 50)
theorem easter_calls (y : Int) (w : World) : Calls Tryd.prog 12 #[.int .i64 y] w fun e w' => e = .returned (.tuple #[.int .i64 (easterF y).1, .int .i64 (easterF y).2]) ∧ Drawn0 w w' := by
 unfold easterF
 by_cases h : 1900 ≤ y ∧ y ≤ 2199
 ·
  rw [if_pos h]; exact easter_yes y h.1 h.2 w
 ·
  rw [if_neg h]; exact easter_no y h w
end Go.Proofs.YtoncignjcgjhhaaDoor.H
namespace Go.Proofs.YtoncignjcgjhhaaDoor.Q
open Go.RowKit Go.Proofs.YtoncignjcgjhhaaDoorW.PrintWords Go.Proofs.YtoncignjcgjhhaaDoorW.PrintLast Go.Proofs.YtoncignjcgjhhaaDoorW.PrintMore
attribute [local go_sem] max2_int min2_int max_two min_two max_three min_three max_four min_four   -- for this text's walks alone
def date_Easter.f (a0 : Int) : Option (Int × Int) := some (Go.Proofs.YtoncignjcgjhhaaDoor.H.easterF a0)
theorem date_Easter.calls (a0 : Int) (r1 : Int) (r2 : Int) (w : World) (h : date_Easter.f a0 = some (r1, r2)) :
  Calls Tryd.prog 12 #[.int .i64 a0] w fun e w' => e = .returned (.tuple #[.int .i64 r1, .int .i64 r2]) ∧ Drawn0 w w' := by
 have e := Option.some.inj h;have c := Go.Proofs.YtoncignjcgjhhaaDoor.H.easter_calls a0 w
 rw [e] at c
 exact c
end Go.Proofs.YtoncignjcgjhhaaDoor.Q
namespace Go.Proofs
open Go.Shelf
def Tryd.lays172_ren : Go.Shelf.Ren := ⟨fun | 172 => 34 | 244 => 45 | 245 => 46 | 247 => 48 | 279 => 49 | 280 => 50 | 281 => 51 | 282 => 52 | 287 => 54 | 316 => 55 | 171 => 38 | 205 => 56 | 321 => 61 | 322 => 62 | 243 => 47 | 246 => 53 | 283 => 57 | 284 => 58 | 285 => 59 | 286 => 60 | 129 => 64 | 317 => 63 | 318 => 65 | 319 => 66 | 320 => 67 | 337 => 68 | 338 => 69 | n => n, fun | 9 => 9 | 3 => 3 | 75 => 53 | 76 => 54 | 4 => 4 | 5 => 5 | 167 => 67 | 37 => 66 | 0 => 0 | 85 => 68 | 2 => 2 | 168 => 70 | 53 => 74 | 175 => 75 | 46 => 77 | 210 => 80 | 127 => 89 | 145 => 92 | 143 => 90 | 21 => 21 | 171 => 82 | 173 => 85 | 212 => 94 | 51 => 95 | 20 => 20 | 213 => 96 | 232 => 99 | 233 => 100 | 80 => 101 | n => n, fun | 15 => 0 | 16 => 1 | 17 => 2 | 18 => 3 | 19 => 4 | n => n⟩
theorem Tryd.lays172 : Go.Proofs.Lays.n172 Tryd.prog Tryd.lays172_ren := {
 mixed := by kernel_rfl
 f129 := Tryd.func64.trans (congrArg some (by kernel_rfl))
 f171 := Tryd.func38.trans (congrArg some (by kernel_rfl))
 f172 := Tryd.func34.trans (congrArg some (by kernel_rfl))
 f205 := Tryd.func56.trans (congrArg some (by kernel_rfl))
 f243 := Tryd.func47.trans (congrArg some (by kernel_rfl))
 f244 := Tryd.func45.trans (congrArg some (by kernel_rfl))
 f245 := Tryd.func46.trans (congrArg some (by kernel_rfl))
 f246 := Tryd.func53.trans (congrArg some (by kernel_rfl))
 f247 := Tryd.func48.trans (congrArg some (by kernel_rfl))
 f279 := Tryd.func49.trans (congrArg some (by kernel_rfl))
 f280 := Tryd.func50.trans (congrArg some (by kernel_rfl))
 f281 := Tryd.func51.trans (congrArg some (by kernel_rfl))
 f282 := Tryd.func52.trans (congrArg some (by kernel_rfl))
 f283 := Tryd.func57.trans (congrArg some (by kernel_rfl))
 f284 := Tryd.func58.trans (congrArg some (by kernel_rfl))
 f285 := Tryd.func59.trans (congrArg some (by kernel_rfl))
 f286 := Tryd.func60.trans (congrArg some (by kernel_rfl))
 f287 := Tryd.func54.trans (congrArg some (by kernel_rfl))
 f316 := Tryd.func55.trans (congrArg some (by kernel_rfl))
 f317 := Tryd.func63.trans (congrArg some (by kernel_rfl))
 f318 := Tryd.func65.trans (congrArg some (by kernel_rfl))
 f319 := Tryd.func66.trans (congrArg some (by kernel_rfl))
 f320 := Tryd.func67.trans (congrArg some (by kernel_rfl))
 f321 := Tryd.func61.trans (congrArg some (by kernel_rfl))
 f322 := Tryd.func62.trans (congrArg some (by kernel_rfl))
 f337 := Tryd.func68.trans (congrArg some (by kernel_rfl))
 f338 := Tryd.func69.trans (congrArg some (by kernel_rfl))
 t0 := Tryd.underlying0
 a0 := Tryd.isAgg0
 z0 := Tryd.sizeOf0
 v0 := Tryd.zeroValue0
 t2 := Tryd.underlying2
 a2 := Tryd.isAgg2
 z2 := Tryd.sizeOf2
 v2 := Tryd.zeroValue2
 t3 := Tryd.underlying3
 a3 := Tryd.isAgg3
 z3 := Tryd.sizeOf3
 v3 := Tryd.zeroValue3
 t4 := Tryd.underlying4
 a4 := Tryd.isAgg4
 z4 := Tryd.sizeOf4
 v4 := Tryd.zeroValue4
 t5 := Tryd.underlying5
 a5 := Tryd.isAgg5
 z5 := Tryd.sizeOf5
 v5 := Tryd.zeroValue5
 t9 := Tryd.underlying9
 a9 := Tryd.isAgg9
 z9 := Tryd.sizeOf9
 v9 := Tryd.zeroValue9
 t20 := Tryd.underlying20
 a20 := Tryd.isAgg20
 z20 := Tryd.sizeOf20
 v20 := Tryd.zeroValue20
 t21 := Tryd.underlying21
 a21 := Tryd.isAgg21
 z21 := Tryd.sizeOf21
 v21 := Tryd.zeroValue21
 t37 := Tryd.underlying66
 a37 := Tryd.isAgg66
 z37 := Tryd.sizeOf66
 v37 := Tryd.zeroValue66
 t46 := Tryd.underlying77
 a46 := Tryd.isAgg77
 z46 := Tryd.sizeOf77
 v46 := Tryd.zeroValue77
 t51 := Tryd.underlying95
 a51 := Tryd.isAgg95
 z51 := Tryd.sizeOf95
 v51 := Tryd.zeroValue95
 t53 := Tryd.underlying74
 a53 := Tryd.isAgg74
 z53 := Tryd.sizeOf74
 v53 := Tryd.zeroValue74
 t75 := Tryd.underlying53
 a75 := Tryd.isAgg53
 z75 := Tryd.sizeOf53
 v75 := Tryd.zeroValue53
 t76 := Tryd.underlying54
 a76 := Tryd.isAgg54
 z76 := Tryd.sizeOf54
 v76 := Tryd.zeroValue54
 t85 := Tryd.underlying68
 a85 := Tryd.isAgg68
 z85 := Tryd.sizeOf68
 v85 := Tryd.zeroValue68
 t127 := Tryd.underlying89
 a127 := Tryd.isAgg89
 z127 := Tryd.sizeOf89
 v127 := Tryd.zeroValue89
 t143 := Tryd.underlying90
 a143 := Tryd.isAgg90
 z143 := Tryd.sizeOf90
 v143 := Tryd.zeroValue90
 t145 := Tryd.underlying92
 a145 := Tryd.isAgg92
 z145 := Tryd.sizeOf92
 v145 := Tryd.zeroValue92
 t167 := Tryd.underlying67
 a167 := Tryd.isAgg67
 z167 := Tryd.sizeOf67
 v167 := Tryd.zeroValue67
 t168 := Tryd.underlying70
 a168 := Tryd.isAgg70
 z168 := Tryd.sizeOf70
 v168 := Tryd.zeroValue70
 t171 := Tryd.underlying82
 a171 := Tryd.isAgg82
 z171 := Tryd.sizeOf82
 v171 := Tryd.zeroValue82
 t173 := Tryd.underlying85
 a173 := Tryd.isAgg85
 z173 := Tryd.sizeOf85
 v173 := Tryd.zeroValue85
 t175 := Tryd.underlying75
 a175 := Tryd.isAgg75
 z175 := Tryd.sizeOf75
 v175 := Tryd.zeroValue75
 t210 := Tryd.underlying80
 a210 := Tryd.isAgg80
 z210 := Tryd.sizeOf80
 v210 := Tryd.zeroValue80
 t212 := Tryd.underlying94
 a212 := Tryd.isAgg94
 z212 := Tryd.sizeOf94
 v212 := Tryd.zeroValue94
 t213 := Tryd.underlying96
 a213 := Tryd.isAgg96
 z213 := Tryd.sizeOf96
 t232 := Tryd.underlying99
 a232 := Tryd.isAgg99
 z232 := Tryd.sizeOf99
 v232 := Tryd.zeroValue99
 t233 := Tryd.underlying100
 a233 := Tryd.isAgg100
 z233 := Tryd.sizeOf100
 v233 := Tryd.zeroValue100
 g15 := by kernel_rfl
 g16 := by kernel_rfl
 g17 := by kernel_rfl
 g18 := by kernel_rfl
 g19 := by kernel_rfl }
open Go.RowKit in
theorem Tryd.strconv_Atoi (s : ByteArray) (n : Int) (hl : s.size ≤ 18) (h : Lib.atoi s.data.toList = some n) (w : World) :
    Calls Tryd.prog 34 #[.string s] w fun e w' => e = .returned (.tuple #[.int .i64 n, .nilIface]) ∧ ∃ t, w' = Lib.bytesWorld w 5 t := Any.strconv_Atoi Tryd.lays172 s n hl h w
def Tryd.laysM171_ren : Go.Shelf.Ren := ⟨fun | 171 => 38 | 243 => 47 | 246 => 53 | 283 => 57 | 284 => 58 | 285 => 59 | 286 => 60 | 129 => 64 | 317 => 63 | 318 => 65 | 319 => 66 | 320 => 67 | 337 => 68 | 338 => 69 | n => n, fun | 3 => 3 | 9 => 9 | 2 => 2 | 4 => 4 | 171 => 82 | 0 => 0 | 53 => 74 | 37 => 66 | 5 => 5 | 173 => 85 | 212 => 94 | 51 => 95 | 20 => 20 | 213 => 96 | 46 => 77 | 232 => 99 | 233 => 100 | n => n, fun | 17 => 2 | 18 => 3 | 19 => 4 | n => n⟩
theorem Tryd.laysM171 : Go.Proofs.LaysM.n171 Tryd.prog Tryd.laysM171_ren := {
 mixed := by kernel_rfl
 f129 := Tryd.func64.trans (congrArg some (by kernel_rfl))
 f171 := Tryd.func38.trans (congrArg some (by kernel_rfl))
 f243 := Tryd.func47.trans (congrArg some (by kernel_rfl))
 f246 := Tryd.func53.trans (congrArg some (by kernel_rfl))
 f283 := Tryd.func57.trans (congrArg some (by kernel_rfl))
 f284 := Tryd.func58.trans (congrArg some (by kernel_rfl))
 f285 := Tryd.func59.trans (congrArg some (by kernel_rfl))
 f286 := Tryd.func60.trans (congrArg some (by kernel_rfl))
 f317 := Tryd.func63.trans (congrArg some (by kernel_rfl))
 f318 := Tryd.func65.trans (congrArg some (by kernel_rfl))
 f319 := Tryd.func66.trans (congrArg some (by kernel_rfl))
 f320 := Tryd.func67.trans (congrArg some (by kernel_rfl))
 f337 := Tryd.func68.trans (congrArg some (by kernel_rfl))
 f338 := Tryd.func69.trans (congrArg some (by kernel_rfl))
 t0 := Tryd.underlying0
 a0 := Tryd.isAgg0
 z0 := Tryd.sizeOf0
 v0 := Tryd.zeroValue0
 t2 := Tryd.underlying2
 a2 := Tryd.isAgg2
 z2 := Tryd.sizeOf2
 v2 := Tryd.zeroValue2
 t3 := Tryd.underlying3
 a3 := Tryd.isAgg3
 z3 := Tryd.sizeOf3
 v3 := Tryd.zeroValue3
 t4 := Tryd.underlying4
 a4 := Tryd.isAgg4
 z4 := Tryd.sizeOf4
 v4 := Tryd.zeroValue4
 t5 := Tryd.underlying5
 a5 := Tryd.isAgg5
 z5 := Tryd.sizeOf5
 v5 := Tryd.zeroValue5
 t9 := Tryd.underlying9
 a9 := Tryd.isAgg9
 z9 := Tryd.sizeOf9
 v9 := Tryd.zeroValue9
 t20 := Tryd.underlying20
 a20 := Tryd.isAgg20
 z20 := Tryd.sizeOf20
 v20 := Tryd.zeroValue20
 t37 := Tryd.underlying66
 a37 := Tryd.isAgg66
 z37 := Tryd.sizeOf66
 v37 := Tryd.zeroValue66
 t46 := Tryd.underlying77
 a46 := Tryd.isAgg77
 z46 := Tryd.sizeOf77
 v46 := Tryd.zeroValue77
 t51 := Tryd.underlying95
 a51 := Tryd.isAgg95
 z51 := Tryd.sizeOf95
 v51 := Tryd.zeroValue95
 t53 := Tryd.underlying74
 a53 := Tryd.isAgg74
 z53 := Tryd.sizeOf74
 v53 := Tryd.zeroValue74
 t171 := Tryd.underlying82
 a171 := Tryd.isAgg82
 z171 := Tryd.sizeOf82
 v171 := Tryd.zeroValue82
 t173 := Tryd.underlying85
 a173 := Tryd.isAgg85
 z173 := Tryd.sizeOf85
 v173 := Tryd.zeroValue85
 t212 := Tryd.underlying94
 a212 := Tryd.isAgg94
 z212 := Tryd.sizeOf94
 v212 := Tryd.zeroValue94
 t213 := Tryd.underlying96
 a213 := Tryd.isAgg96
 z213 := Tryd.sizeOf96
 t232 := Tryd.underlying99
 a232 := Tryd.isAgg99
 z232 := Tryd.sizeOf99
 v232 := Tryd.zeroValue99
 t233 := Tryd.underlying100
 a233 := Tryd.isAgg100
 z233 := Tryd.sizeOf100
 v233 := Tryd.zeroValue100
 g17 := by kernel_rfl
 g18 := by kernel_rfl
 g19 := by kernel_rfl
 i0 := by kernel_rfl
 i2 := by kernel_rfl
 i3 := by kernel_rfl
 i4 := by kernel_rfl
 i5 := by kernel_rfl
 i9 := by kernel_rfl
 i20 := by kernel_rfl
 i37 := by kernel_rfl
 i46 := by kernel_rfl
 i51 := by kernel_rfl
 i53 := by kernel_rfl
 i171 := by kernel_rfl
 i173 := by kernel_rfl
 i212 := by kernel_rfl
 i232 := by kernel_rfl
 i233 := by kernel_rfl
 m17 := by kernel_rfl
 m18 := by kernel_rfl
 m19 := by kernel_rfl }
open Go.RowKit Go.Sort Go.Lib in
theorem Tryd.strconv_Itoa (n : Int) (h0 : -9223372036854775808 ≤ n) (h1 : n ≤ 9223372036854775807) (w : World) (htab : Lib.TabIs Tryd.prog w "internal/strconv.uint64pow10" .u64 Lib.pow10Tab) :
    Calls Tryd.prog 38 #[.int .i64 n] w fun e w' => e = .returned (.string ⟨(Lib.itoa n).toArray⟩) ∧ ∃ k os, w' = grow (w.drewN k) os := Any.strconv_Itoa Tryd.laysM171 n h0 h1 w htab
def Tryd.lays171_ren : Go.Shelf.Ren := ⟨fun | 171 => 38 | 243 => 47 | 246 => 53 | 283 => 57 | 284 => 58 | 285 => 59 | 286 => 60 | 129 => 64 | 317 => 63 | 318 => 65 | 319 => 66 | 320 => 67 | 337 => 68 | 338 => 69 | n => n, fun | 3 => 3 | 9 => 9 | 2 => 2 | 4 => 4 | 171 => 82 | 0 => 0 | 53 => 74 | 37 => 66 | 5 => 5 | 173 => 85 | 212 => 94 | 51 => 95 | 20 => 20 | 213 => 96 | 46 => 77 | 232 => 99 | 233 => 100 | n => n, fun | 17 => 2 | 18 => 3 | 19 => 4 | n => n⟩
theorem Tryd.lays171 : Go.Proofs.Lays.n171 Tryd.prog Tryd.lays171_ren := {
 mixed := by kernel_rfl
 f129 := Tryd.func64.trans (congrArg some (by kernel_rfl))
 f171 := Tryd.func38.trans (congrArg some (by kernel_rfl))
 f243 := Tryd.func47.trans (congrArg some (by kernel_rfl))
 f246 := Tryd.func53.trans (congrArg some (by kernel_rfl))
 f283 := Tryd.func57.trans (congrArg some (by kernel_rfl))
 f284 := Tryd.func58.trans (congrArg some (by kernel_rfl))
 f285 := Tryd.func59.trans (congrArg some (by kernel_rfl))
 f286 := Tryd.func60.trans (congrArg some (by kernel_rfl))
 f317 := Tryd.func63.trans (congrArg some (by kernel_rfl))
 f318 := Tryd.func65.trans (congrArg some (by kernel_rfl))
 f319 := Tryd.func66.trans (congrArg some (by kernel_rfl))
 f320 := Tryd.func67.trans (congrArg some (by kernel_rfl))
 f337 := Tryd.func68.trans (congrArg some (by kernel_rfl))
 f338 := Tryd.func69.trans (congrArg some (by kernel_rfl))
 t0 := Tryd.underlying0
 a0 := Tryd.isAgg0
 z0 := Tryd.sizeOf0
 v0 := Tryd.zeroValue0
 t2 := Tryd.underlying2
 a2 := Tryd.isAgg2
 z2 := Tryd.sizeOf2
 v2 := Tryd.zeroValue2
 t3 := Tryd.underlying3
 a3 := Tryd.isAgg3
 z3 := Tryd.sizeOf3
 v3 := Tryd.zeroValue3
 t4 := Tryd.underlying4
 a4 := Tryd.isAgg4
 z4 := Tryd.sizeOf4
 v4 := Tryd.zeroValue4
 t5 := Tryd.underlying5
 a5 := Tryd.isAgg5
 z5 := Tryd.sizeOf5
 v5 := Tryd.zeroValue5
 t9 := Tryd.underlying9
 a9 := Tryd.isAgg9
 z9 := Tryd.sizeOf9
 v9 := Tryd.zeroValue9
 t20 := Tryd.underlying20
 a20 := Tryd.isAgg20
 z20 := Tryd.sizeOf20
 v20 := Tryd.zeroValue20
 t37 := Tryd.underlying66
 a37 := Tryd.isAgg66
 z37 := Tryd.sizeOf66
 v37 := Tryd.zeroValue66
 t46 := Tryd.underlying77
 a46 := Tryd.isAgg77
 z46 := Tryd.sizeOf77
 v46 := Tryd.zeroValue77
 t51 := Tryd.underlying95
 a51 := Tryd.isAgg95
 z51 := Tryd.sizeOf95
 v51 := Tryd.zeroValue95
 t53 := Tryd.underlying74
 a53 := Tryd.isAgg74
 z53 := Tryd.sizeOf74
 v53 := Tryd.zeroValue74
 t171 := Tryd.underlying82
 a171 := Tryd.isAgg82
 z171 := Tryd.sizeOf82
 v171 := Tryd.zeroValue82
 t173 := Tryd.underlying85
 a173 := Tryd.isAgg85
 z173 := Tryd.sizeOf85
 v173 := Tryd.zeroValue85
 t212 := Tryd.underlying94
 a212 := Tryd.isAgg94
 z212 := Tryd.sizeOf94
 v212 := Tryd.zeroValue94
 t213 := Tryd.underlying96
 a213 := Tryd.isAgg96
 z213 := Tryd.sizeOf96
 t232 := Tryd.underlying99
 a232 := Tryd.isAgg99
 z232 := Tryd.sizeOf99
 v232 := Tryd.zeroValue99
 t233 := Tryd.underlying100
 a233 := Tryd.isAgg100
 z233 := Tryd.sizeOf100
 v233 := Tryd.zeroValue100
 g17 := by kernel_rfl
 g18 := by kernel_rfl
 g19 := by kernel_rfl }
open Go.RowKit Go.Sort Go.Lib in
theorem Tryd.strconv_Itoa_small (i : Nat) (hi : i < 100) (w : World) :
    Calls Tryd.prog 38 #[.int .i64 i] w fun e w' => e = .returned (.string ⟨(Lib.decDigits i).toArray⟩) ∧ w' = w := Any.strconv_Itoa_small Tryd.lays171 i hi w
end Go.Proofs
namespace Go.Proofs.YtoncignjcgjhhaaDoor.T
def fits (i : Nat) (b : UInt8) : Prop := if i = 4 ∨ i = 7 then b = 45 else 48 ≤ b.toNat ∧ b.toNat ≤ 57
instance fitsDec (i : Nat) (b : UInt8) : Decidable (fits i b) := by unfold fits; exact inferInstance
def okT (s : ByteArray) : Prop := ∃ h : s.size = 10, ∀ i (hi : i < 10), fits i (s[i]'(by omega))
instance okTDec (s : ByteArray) : Decidable (okT s) :=
  if h : s.size = 10 then decidable_of_iff (∀ i (hi : i < 10), fits i (s[i]'(by omega))) ⟨fun a => ⟨h, a⟩, fun a => a.2⟩ else isFalse (fun a => h a.1)
def numT (s : ByteArray) (a b : Nat) : Nat := ((s.extract a b).data.toList).foldl (fun n d => n * 10 + (d.toNat - 48)) 0
theorem decFrom_fold : ∀ (l : List UInt8) (acc : Nat), (∀ b ∈ l, 48 ≤ b.toNat ∧ b.toNat ≤ 57) → Lib.decFrom acc l = some (l.foldl (fun n d => n * 10 + (d.toNat - 48)) acc)
 | [], acc, _ => rfl
 | b :: l, acc, h => by
  have hb := h b List.mem_cons_self
  have hd : Lib.digitVal b = some (b.toNat - 48) := by unfold Lib.digitVal; rw [if_pos hb]
  simp only [Lib.decFrom, hd, List.foldl_cons]
  exact decFrom_fold l _ (fun x hx => h x (List.mem_cons_of_mem _ hx))
theorem atoi_fold {l : List UInt8} (hne : l ≠ []) (h : ∀ b ∈ l, 48 ≤ b.toNat ∧ b.toNat ≤ 57) : Lib.atoi l = some ((l.foldl (fun n d => n * 10 + (d.toNat - 48)) 0 : Nat) : Int) := by
 obtain ⟨b, r, rfl⟩ := List.exists_cons_of_ne_nil hne
 have hb := h b List.mem_cons_self
 have h1 : (b == 45) = false := by rw [beq_eq_false_iff_ne]; intro e; subst e; exact absurd hb.1 (by decide)
 have h2 : (b == 43) = false := by rw [beq_eq_false_iff_ne]; intro e; subst e; exact absurd hb.1 (by decide)
 simp only [Lib.atoi, h1, h2]
 unfold Lib.decNat
 rw [decFrom_fold _ 0 h]
 rfl
theorem extract_mem {s : ByteArray} (hs : s.size = 10) {a b : Nat} (hab : a < b) (hb : b ≤ 10) (h : ∀ i (hi : i < 10), fits i (s[i]'(by omega))) (hd : ∀ i, a ≤ i → i < b → ¬ (i = 4 ∨ i = 7)) : (s.extract a b).data.toList ≠ [] ∧ ∀ x ∈ (s.extract a b).data.toList, 48 ≤ x.toNat ∧ x.toNat ≤ 57 := by
 have hsz : s.data.size = 10 := hs
 have he : (s.extract a b).data = s.data.extract a b := ByteArray.data_extract
 rw [he]
 have hl : (s.data.extract a b).size = b - a := by rw [Array.size_extract]; omega
 refine ⟨fun e => ?_, fun x hx => ?_⟩
 ·
  have : (s.data.extract a b).toList.length = 0 := by rw [e]; rfl
  rw [Array.length_toList, hl] at this; omega
 ·
  obtain ⟨k, hk, rfl⟩ := List.getElem_of_mem hx
  rw [Array.length_toList, hl] at hk
  rw [Array.getElem_toList, Array.getElem_extract]
  have hf := h (a + k) (by omega)
  unfold fits at hf
  rw [if_neg (hd (a + k) (by omega) (by omega))] at hf
  exact hf
theorem num_atoi {s : ByteArray} (h : okT s) {a b : Nat} (hab : a < b) (hb : b ≤ 10) (hd : ∀ i, a ≤ i → i < b → ¬ (i = 4 ∨ i = 7)) : Lib.atoi (s.extract a b).data.toList = some (numT s a b : Int) := by
 obtain ⟨hs, hf⟩ := h
 obtain ⟨h1, h2⟩ := extract_mem hs hab hb hf hd
 exact atoi_fold h1 h2
end Go.Proofs.YtoncignjcgjhhaaDoor.T
namespace Go.Proofs.YtoncignjcgjhhaaDoor.H
open Go.RowKit Go.Proofs.YtoncignjcgjhhaaDoorW.PrintWords Go.Proofs.YtoncignjcgjhhaaDoorW.PrintLast Go.Proofs.YtoncignjcgjhhaaDoorW.PrintMore
open Go.Proofs.YtoncignjcgjhhaaDoor.Q
def parseF (k : Nat) (s : ByteArray) : Option (Int × Int) := if T.okT s then date_Of.f k (T.numT s 0 4) (T.numT s 5 7) (T.numT s 8 10) else some (0, 50)
theorem parse_mono (s : ByteArray) (k : Nat) : LeO (parseF k s) (parseF (k + 1) s) := by
 unfold parseF
 by_cases h : T.okT s
 ·
  rw [if_pos h, if_pos h]; exact date_Of.mono _ _ _ _
 ·
  rw [if_neg h, if_neg h]; exact LeO.refl _
theorem bw_below {w wr : World} (h : ∃ t, w = Lib.bytesWorld wr 5 t) : Below wr.heap.size wr w := by
  obtain ⟨t, rfl⟩ := h
  exact Lib.bytesWorld_below _ _ _
set_option maxHeartbeats 8000000 in
set_option maxRecDepth 1000000 in
theorem parse_calls (k : Nat) (s : ByteArray) (r1 r2 : Int) (w : World) (h : parseF k s = some (r1, r2)) :
  Calls Tryd.prog 15 #[.string s] w fun e w' => e = .returned (.tuple #[.int .i64 r1, .int .i64 r2]) ∧ Below w.heap.size w w' := by
 unfold parseF at h
 by_cases hs : s.size = 10
 ·
  go_enter Tryd.func15, Tryd.ntmps15
  have hsb : (((s.size : Nat) : Int) != 10) = false := by rw [hs]; rfl
  go_wp2
  have HH := Aside0.mk h;clear h
  have hbad : ∀ (pos : Nat) (hp : pos < s.size), pos < 10 → ¬ T.fits pos (s[pos]'hp) → r1 = 0 ∧ r2 = 50 := by
   intro pos hp hp2 hn
   have h := HH.out
   rw [if_neg (fun hok => hn (hok.2 pos hp2))] at h
   have := Option.some.inj h
   exact ⟨(Prod.mk.inj this).1.symm, (Prod.mk.inj this).2.symm⟩
  go_loopw [] (fun wr => ∃ pos : Nat, wr.heap[w.heap.size]? = some (.stringIter s pos) ∧ Below w.heap.size w wr ∧ pos ≤ 10 ∧ ∀ (i : Nat) (hi : i < s.size), i < pos → T.fits i (s[i]'hi)) (fun wr => s.size - wr.iterPos w.heap.size)
  case atStart =>
   refine ⟨0, World.iter_heap w s 0, (Below.refl _ w).alloc (Nat.le_refl _) _, by omega, fun i hi h0 => absurd h0 (Nat.not_lt_zero _)⟩
  case round =>
   obtain ⟨pos, hit, hbw, hp10, hfit⟩ := hrel
   have hsz : w.heap.size < wr.heap.size := (Array.getElem?_eq_some_iff.1 hit).1
   by_cases hp : pos < s.size
   ·
    have hnx : ∀ ty, (Instr.next (.pointer (some ⟨w.heap.size, 0, none⟩)) true ty).run Tryd.prog wr = _ := fun ty => Lib.run_next_any_at wr w.heap.size s pos ty hit hp
    have hrune : ∃ r wd : Nat, Utf8.decode s pos = (r, wd) ∧ ((s[pos]'hp).toNat < 128 ∧ r = (s[pos]'hp).toNat ∧ wd = 1 ∨ 128 ≤ (s[pos]'hp).toNat ∧ 128 ≤ r) := by
     by_cases ha : (s[pos]'hp).toNat < 128
     ·
      exact ⟨_, _, decode_ascii s pos hp ha, .inl ⟨ha, rfl, rfl⟩⟩
     ·
      exact ⟨_, _, rfl, .inr ⟨by omega, (decode_high s pos hp (by omega)).1⟩⟩
    obtain ⟨r, wd, hdec, hr⟩ := hrune
    simp only [hdec] at hnx
    have hbw2 := Lib.below_iterAt hbw (k := w.heap.size) (Nat.le_refl _) s (pos + wd)
    have hit2 := Lib.iterAt_heap wr w.heap.size s pos (pos + wd) hit
    have hnext : T.fits pos (s[pos]'hp) → wd = 1 → ∀ (i : Nat) (hi : i < s.size), i < pos + wd → T.fits i (s[i]'hi) := by
     intro hf hw1 i hi hlt
     by_cases he : i = pos
     ·
      subst he; exact hf
     ·
      exact hfit i hi (by omega)
    obtain ⟨np, hnp⟩ : ∃ np, pos + wd = np := ⟨_, rfl⟩
    rw [hnp] at hbw2 hit2 hnext
    simp only [hnp] at hnx
    have hpi : (pos : Int) < 10 := by omega
    by_cases hf : T.fits pos (s[pos]'hp)
    ·
     have hf2 := hf
     unfold T.fits at hf2
     by_cases h47 : pos = 4 ∨ pos = 7
     ·
      rw [if_pos h47] at hf2
      have hb : (s[pos]'hp).toNat = 45 := by rw [hf2]; rfl
      obtain ⟨hr45, hwd⟩ : r = 45 ∧ wd = 1 := by omega
      rw [hr45] at hnx
      have b45 : (((45 : Nat) : Int) != 45) = false := rfl
      rcases h47 with h4 | h7
      ·
       have b4 : ((pos : Int) == 4) = true := by rw [h4]; rfl
       have HN := Aside0.mk hnp;have HW := Aside0.mk hwd
       (try clear h4); (try clear h7); (try clear hrb); (try clear hb); (try clear hr45); clear hnp hwd hf2 hdec hr
       go_wp2
       go_roundw
       case rel => have e1 := HN.out; have e2 := HW.out; exact ⟨np, hit2, hbw2, by omega, hnext hf e2⟩
       case measure => have e1 := HN.out; have e2 := HW.out; simp only [World.iterPos, hit2, hit]; omega
      ·
       have b4 : ((pos : Int) == 4) = false := by rw [h7]; rfl
       have b7 : ((pos : Int) == 7) = true := by rw [h7]; rfl
       have HN := Aside0.mk hnp;have HW := Aside0.mk hwd
       (try clear h4); (try clear h7); (try clear hrb); (try clear hb); (try clear hr45); clear hnp hwd hf2 hdec hr
       go_wp2
       go_roundw
       case rel => have e1 := HN.out; have e2 := HW.out; exact ⟨np, hit2, hbw2, by omega, hnext hf e2⟩
       case measure => have e1 := HN.out; have e2 := HW.out; simp only [World.iterPos, hit2, hit]; omega
     ·
      rw [if_neg h47] at hf2
      obtain ⟨hrb, hwd⟩ : r = (s[pos]'hp).toNat ∧ wd = 1 := by omega
      have b4 : ((pos : Int) == 4) = false := by rw [beq_eq_false_iff_ne]; omega
      have b7 : ((pos : Int) == 7) = false := by rw [beq_eq_false_iff_ne]; omega
      have d1 : decide ((r : Int) < 48) = false := decide_eq_false (by omega)
      have d2 : decide ((57 : Int) < (r : Int)) = false := decide_eq_false (by omega)
      have HN := Aside0.mk hnp;have HW := Aside0.mk hwd
      (try clear h4); (try clear h7); (try clear hrb); (try clear hb); (try clear hr45); clear hnp hwd hf2 hdec hr
      go_wp2
      go_roundw
      case rel => have e1 := HN.out; have e2 := HW.out; exact ⟨np, hit2, hbw2, by omega, hnext hf e2⟩
      case measure => have e1 := HN.out; have e2 := HW.out; simp only [World.iterPos, hit2, hit]; omega
    ·
     by_cases h47 : pos = 4 ∨ pos = 7
     ·
      have hr45 : r ≠ 45 := by
       intro e
       apply hf
       unfold T.fits
       rw [if_pos h47]
       have : (s[pos]'hp).toNat = 45 := by omega
       exact UInt8.toNat_inj.1 this
      have b45 : ((r : Int) != 45) = true := by rw [bne_iff_ne]; omega
      rcases h47 with h4 | h7
      ·
       have b4 : ((pos : Int) == 4) = true := by rw [h4]; rfl
       obtain ⟨rfl, rfl⟩ := hbad pos hp (by omega) hf
       (try clear h4); (try clear h7); clear hnp hdec hr
       go_wp2
       go_ret2
       exact ⟨rfl, hbw2⟩
      ·
       have b4 : ((pos : Int) == 4) = false := by rw [h7]; rfl
       have b7 : ((pos : Int) == 7) = true := by rw [h7]; rfl
       obtain ⟨rfl, rfl⟩ := hbad pos hp (by omega) hf
       (try clear h4); (try clear h7); clear hnp hdec hr
       go_wp2
       go_ret2
       exact ⟨rfl, hbw2⟩
     ·
      have hr2 : r < 48 ∨ 57 < r := by
       refine Classical.byContradiction (fun hn => hf ?_)
       unfold T.fits
       rw [if_neg h47]
       omega
      have b4 : ((pos : Int) == 4) = false := by rw [beq_eq_false_iff_ne]; omega
      have b7 : ((pos : Int) == 7) = false := by rw [beq_eq_false_iff_ne]; omega
      by_cases h48 : r < 48
      ·
       have d1 : decide ((r : Int) < 48) = true := decide_eq_true (by omega)
       obtain ⟨rfl, rfl⟩ := hbad pos hp (by omega) hf
       (try clear h4); (try clear h7); clear hnp hdec hr
       go_wp2
       go_ret2
       exact ⟨rfl, hbw2⟩
      ·
       have d1 : decide ((r : Int) < 48) = false := decide_eq_false (by omega)
       have d2 : decide ((57 : Int) < (r : Int)) = true := decide_eq_true (by omega)
       obtain ⟨rfl, rfl⟩ := hbad pos hp (by omega) hf
       (try clear h4); (try clear h7); clear hnp hdec hr
       go_wp2
       go_ret2
       exact ⟨rfl, hbw2⟩
   ·
    have hok : T.okT s := ⟨hs, fun i hi => hfit i (by omega) (by omega)⟩
    have hnx : ∀ ty, (Instr.next (.pointer (some ⟨w.heap.size, 0, none⟩)) true ty).run Tryd.prog wr = _ := fun ty => Lib.run_next_end_at wr w.heap.size s pos ty hit hp
    have h := HH.out
    rw [if_pos hok] at h
    have A1 := Aside0.mk h
    have a1 := Aside0.mk (T.num_atoi hok (a := 0) (b := 4) (by omega) (by omega) (by intro i h1 h2; omega))
    have a2 := Aside0.mk (T.num_atoi hok (a := 5) (b := 7) (by omega) (by omega) (by intro i h1 h2; omega))
    have a3 := Aside0.mk (T.num_atoi hok (a := 8) (b := 10) (by omega) (by omega) (by intro i h1 h2; omega))
    clear h hbad HH;have HB := Aside0.mk hbw;have hsz10 := hs;clear hbw hit hfit hp
    go_wp2_with (first | (go_at_call 34; (with_reducible refine (Tryd.strconv_Atoi (s.extract 0 4) _ ?s1 a1.out _).mono ?_); (case s1 => rw [ByteArray.size_extract]; omega); rintro e w1 ⟨rfl, ht⟩; have n0_ := Aside0.mk (below_step HB.out (bw_below ht)); clear HB ht; have HB := n0_; clear n0_) | (go_at_call 34; (with_reducible refine (Tryd.strconv_Atoi (s.extract 5 7) _ ?s1 a2.out _).mono ?_); (case s1 => rw [ByteArray.size_extract]; omega); rintro e w2 ⟨rfl, ht⟩; have n0_ := Aside0.mk (below_step HB.out (bw_below ht)); clear HB ht; have HB := n0_; clear n0_) | (go_at_call 34; (with_reducible refine (Tryd.strconv_Atoi (s.extract 8 10) _ ?s1 a3.out _).mono ?_); (case s1 => rw [ByteArray.size_extract]; omega); rintro e w3 ⟨rfl, ht⟩; have n0_ := Aside0.mk (below_step HB.out (bw_below ht)); clear HB ht; have HB := n0_; clear n0_) | (go_at_call 21; (with_reducible refine (date_Of.calls k _ _ _ r1 r2 _ A1.out).mono ?_); rintro e w5 ⟨rfl, ⟨n_, rfl⟩⟩))
    go_ret2
    exact ⟨rfl, by repeat (first | exact HB.out | apply pw_below_drewN)⟩
 ·
  go_enter Tryd.func15, Tryd.ntmps15
  have hsb : (((s.size : Nat) : Int) != 10) = true := by rw [bne_iff_ne]; omega
  rw [if_neg (fun hok => hs hok.1)] at h
  obtain ⟨rfl, rfl⟩ := Prod.mk.inj (Option.some.inj h)
  clear h
  go_wp2
  go_ret2
  exact ⟨rfl, Below.refl _ _⟩
end Go.Proofs.YtoncignjcgjhhaaDoor.H
namespace Go.Proofs.YtoncignjcgjhhaaDoor.Q
open Go.RowKit Go.Proofs.YtoncignjcgjhhaaDoorW.PrintWords Go.Proofs.YtoncignjcgjhhaaDoorW.PrintLast Go.Proofs.YtoncignjcgjhhaaDoorW.PrintMore
attribute [local go_sem] max2_int min2_int max_two min_two max_three min_three max_four min_four   -- for this text's walks alone
def date_Parse.f (k : Nat) (a0 : ByteArray) : Option (Int × Int) := Go.Proofs.YtoncignjcgjhhaaDoor.H.parseF k a0
theorem date_Parse.mono : ∀ a0 k, LeO (date_Parse.f k a0) (date_Parse.f (k + 1) a0) := fun a0 k => Go.Proofs.YtoncignjcgjhhaaDoor.H.parse_mono a0 k
theorem date_Parse.calls (k : Nat) (a0 : ByteArray) (r1 : Int) (r2 : Int) (w : World) (h : date_Parse.f k a0 = some (r1, r2)) :
    Calls Tryd.prog 15 #[.string a0] w fun e w' => e = .returned (.tuple #[.int .i64 r1, .int .i64 r2]) ∧ Below w.heap.size w w' := Go.Proofs.YtoncignjcgjhhaaDoor.H.parse_calls k a0 r1 r2 w h
end Go.Proofs.YtoncignjcgjhhaaDoor.Q
