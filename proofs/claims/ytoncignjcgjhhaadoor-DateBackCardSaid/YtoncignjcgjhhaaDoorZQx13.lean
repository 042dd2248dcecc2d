/- Contracts of functions of the seat's program: each Go function's Lean function and its walk, written by a program of this session over the kit's print. Not trusted: Lean checks it. -/
import Derived.Test.YtoncignjcgjhhaaDoorZGA
import Derived.Test.YtoncignjcgjhhaaDoorZGB
import Derived.Test.YtoncignjcgjhhaaDoorZV
set_option linter.unusedVariables false
set_option linter.unusedSimpArgs false
namespace Go.Proofs.YtoncignjcgjhhaaDoor.Q
open Go.RowKit Go.Proofs.YtoncignjcgjhhaaDoorW.PrintWords Go.Proofs.YtoncignjcgjhhaaDoorW.PrintLast Go.Proofs.YtoncignjcgjhhaaDoorW.PrintMore
attribute [local go_sem] max2_int min2_int max_two min_two max_three min_three max_four min_four   -- for this text's walks alone
def tenorref5_Third.l0 : Nat → Int → Option (Int × Int)
  | 0, _ => none
  | k + 1, x6 => if (Int.tmod x6 7) = 2 then (some (x6, 0)) else (tenorref5_Third.l0 k (wrap64 (x6 + 1)))
def tenorref5_Third.f (k : Nat) (a0 : Int) (a1 : Int) : Option (Int × Int) := (tenorref5_Of.f k a0 a1 15).bind fun bt196 => (if bt196.2 = 0 then (tenorref5_Third.l0 k bt196.1) else (some (0, bt196.2)))
theorem tenorref5_Third.mono_l : ∀ k, (∀ y0, LeO (tenorref5_Third.l0 k y0) (tenorref5_Third.l0 (k + 1) y0))
 | 0 => fun _ r h => by simp [tenorref5_Third.l0] at h
 | k + 1 => by
  have ih0 := tenorref5_Third.mono_l k
  ·
   intro y0
   unfold tenorref5_Third.l0
   repeat' first
   | (with_reducible exact ih0 _)
   | (with_reducible exact tenorref5_Of.mono _ _ _ _)
   | (with_reducible exact LeO.refl _)
   | (with_reducible exact LeO.none _)
   | (with_reducible refine LeO.ite ?_ ?_)
   | (with_reducible refine LeO.bind ?_ (fun _ => ?_))
   | exact ih0 _
   | exact tenorref5_Of.mono _ _ _ _
   | exact LeO.none _
   | refine LeO.ite ?_ ?_
   | refine LeO.bind ?_ (fun _ => ?_)
theorem tenorref5_Third.mono : ∀ a0 a1 k, LeO (tenorref5_Third.f k a0 a1) (tenorref5_Third.f (k + 1) a0 a1) := by
 intro a0 a1 k
 have ih0 := tenorref5_Third.mono_l k
 unfold tenorref5_Third.f
 repeat' first
   | (with_reducible exact ih0 _)
   | (with_reducible exact tenorref5_Of.mono _ _ _ _)
   | (with_reducible exact LeO.refl _)
   | (with_reducible exact LeO.none _)
   | (with_reducible refine LeO.ite ?_ ?_)
   | (with_reducible refine LeO.bind ?_ (fun _ => ?_))
   | exact ih0 _
   | exact tenorref5_Of.mono _ _ _ _
   | exact LeO.none _
   | refine LeO.ite ?_ ?_
   | refine LeO.bind ?_ (fun _ => ?_)
set_option maxHeartbeats 8000000 in
set_option maxRecDepth 100000 in
theorem tenorref5_Third.calls (k : Nat) (a0 : Int) (a1 : Int) (r1 : Int) (r2 : Int) (w : World) (h : tenorref5_Third.f k a0 a1 = some (r1, r2)) :
  Calls Tryd.prog 11 #[.int .i64 a0, .int .i64 a1] w fun e w' => e = .returned (.tuple #[.int .i64 r1, .int .i64 r2]) ∧ Drawn0 w w' := by
 have H : ((tenorref5_Of.f k a0 a1 15).bind fun bt196 => (if bt196.2 = 0 then (tenorref5_Third.l0 k bt196.1) else (some (0, bt196.2)))) = some (r1, r2) := h
 clear h;replace H := Option.bind_eq_some_iff.mp H
 obtain ⟨⟨t196, t197⟩, A30, H⟩ := H
 replace H : (if t197 = 0 then (tenorref5_Third.l0 k t196) else (some (0, t197))) = some (r1, r2) := H
 have A3 := Aside0.mk A30;clear A30
 by_cases c4 : t197 = 0
 ·
  rw [if_pos c4] at H
  have c4b0 : (t197 == 0) = true := beq_iff_eq.mpr c4
  have c4b1 : (t197 != 0) = false := bne_eq_false_iff_eq.mpr c4
  clear c4;have H' := Aside0.mk H;clear H
  go_enter Tryd.func11, Tryd.ntmps11
  go_wp2_with (first | ((with_reducible refine gate_callee (f := 22) rfl ?_); refine goesL_ (some 11) rfl rfl Tryd.func22 (by kernel_rfl) rfl #[.int .i64 a0, .int .i64 a1, .int .i64 15] rfl (by (try simp only [List.map_toArray, List.map_cons, List.map_nil]); first | done | rfl | (simp only [List.length_drop, List.length_take]; rfl)) ?_; (with_reducible refine (tenorref5_Of.calls k a0 a1 15 t196 t197 _ A3.out).mono ?_); rintro e w' ⟨rfl, ⟨nd, rfl⟩⟩; refine ⟨_, rfl, ?_⟩))
  go_loopg [6] k (fun kq v6 w' => ∃ (x6_1 : Int), v6 = .int .i64 x6_1 ∧ Aside0 (tenorref5_Third.l0 kq x6_1 = some (r1, r2)) ∧ Aside0 (kq ≤ k) ∧ Drawn0 w w')
  case atStart => exact ⟨(t196), (by first | rfl | (simp; done) | (simp [*]; done)), H', ⟨Nat.le_refl _⟩, by repeat (first | exact Drawn0.refl _ | apply Drawn0.step)⟩
  case round =>
   clear H'
   obtain ⟨x6_1, rfl, HA, HK1, ⟨m1, rfl⟩⟩ := hrel
   cases gk with
   | zero => exact absurd HA.out (by simp [tenorref5_Third.l0])
   | succ k1 =>
    have H := HA.out;clear HA
    simp only [tenorref5_Third.l0] at H
    by_cases c5 : (Int.tmod x6_1 7) = 2
    ·
     rw [if_pos c5] at H
     have c5b0 : ((Int.tmod x6_1 7) == 2) = true := beq_iff_eq.mpr c5
     have c5b1 : ((Int.tmod x6_1 7) != 2) = false := bne_eq_false_iff_eq.mpr c5
     clear c5
     simp only [Option.some.injEq, Prod.mk.injEq] at H
     obtain ⟨rfl, rfl⟩ := H
     go_wp2
     go_ret2
     exact ⟨by first | rfl | (simp; done) | (simp [*]; done), by repeat (first | exact Drawn0.refl _ | apply Drawn0.step)⟩
    ·
     rw [if_neg c5] at H
     have c5b0 : ((Int.tmod x6_1 7) == 2) = false := beq_eq_false_iff_ne.mpr c5
     have c5b1 : ((Int.tmod x6_1 7) != 2) = true := bne_iff_ne.mpr c5
     have H' := Aside0.mk H;clear H
     go_wp2
     go_roundg k1
     case measure => have := HK1.out; omega
     case rel => exact ⟨(wrap64 (x6_1 + 1)), (by first | rfl | (simp; done) | (simp [*]; done)), H', ⟨by have := HK1.out; omega⟩, by repeat (first | exact Drawn0.refl _ | apply Drawn0.step)⟩
 ·
  rw [if_neg c4] at H
  have c4b0 : (t197 == 0) = false := beq_eq_false_iff_ne.mpr c4
  have c4b1 : (t197 != 0) = true := bne_iff_ne.mpr c4
  simp only [Option.some.injEq, Prod.mk.injEq] at H
  obtain ⟨rfl, rfl⟩ := H
  go_enter Tryd.func11, Tryd.ntmps11
  go_wp2_with (first | ((with_reducible refine gate_callee (f := 22) rfl ?_); refine goesL_ (some 11) rfl rfl Tryd.func22 (by kernel_rfl) rfl #[.int .i64 a0, .int .i64 a1, .int .i64 15] rfl (by (try simp only [List.map_toArray, List.map_cons, List.map_nil]); first | done | rfl | (simp only [List.length_drop, List.length_take]; rfl)) ?_; (with_reducible refine (tenorref5_Of.calls k a0 a1 15 t196 t197 _ A3.out).mono ?_); rintro e w' ⟨rfl, ⟨nd, rfl⟩⟩; refine ⟨_, rfl, ?_⟩))
  go_ret2
  exact ⟨by first | rfl | (simp; done) | (simp [*]; done), by repeat (first | exact Drawn0.refl _ | apply Drawn0.step)⟩
end Go.Proofs.YtoncignjcgjhhaaDoor.Q
