/- Contracts and facts of functions of the program (calendar, dates and their documents), joined in one text by a program of this session. No condition but what each theorem states. -/
import Derived.Test.YtoncignjcgjhhaaCGA
import Derived.Test.YtoncignjcgjhhaaCGM
import Derived.Test.YtoncignjcgjhhaaCGO
import Derived.Test.YtoncignjcgjhhaaCGR
import Derived.IntWalk
set_option linter.unusedVariables false
set_option linter.unusedSimpArgs false
namespace Go.Proofs.Ytoncignjcgjhhaa.Q
open Go.RowKit Go.Proofs.YtoncignjcgjhhaaW.PrintWords Go.Proofs.YtoncignjcgjhhaaW.PrintLast Go.Proofs.YtoncignjcgjhhaaW.PrintMore
attribute [local go_sem] xcC xcB xcR xcQ xbX xbW xcF xcE   -- for this text's walks alone
def xbK.f (k : Nat) (a0_0 : Bool) (l0_1 : List Int) (a0_2 : Int) (a1_0 : Bool) (l1_1 : List Int) (a1_2 : Int) : Option (Int) := (xdB.f a0_0 l0_1 a0_2).bind fun t427 => (if t427 = true then (some 0) else ((xbC.f k l0_1).bind fun t428 => ((xbC.f k l1_1).bind fun t429 => ((xbA.f k l0_1 (mx 0 (wrap64 ((wrap64 (70 - t428)) + t429)))).bind fun t430 => ((xaS.f k t430 l1_1).bind fun bt433 => ((xaV.f k a0_0 bt433.1 (wrap64 ((wrap64 (a0_2 - (mx 0 (wrap64 ((wrap64 (70 - t428)) + t429))))) - a1_2)) (decide ((bt433.2.length : Int) > 0))).bind fun t439 => (some t439)))))))
def xbK.T3 : Bool × List (List Nat × List Nat) := (true, [([], []), ([0], [0]), ([1], [1]), ([2], [2]), ([], []), ([4], [4]), ([5, 2], [5]), ([3, 6], [3, 6]), ([7], [7]), ([8, 6, 0, 1, 2, 3, 4, 5, 6, 7, 8], [8])])
def xbK.B3 : List Nat := [0, 1, 3, 7, 0, 16, 55, 127, 255, 511]
theorem xbK.tab3 : rtab .any (opsOf Try.f66 3) = xbK.T3 := by kernel_rfl
theorem xbK.bits3 : xfP xbK.T3.2 xbK.B3 = true := by kernel_rfl
def xbK.T4 : Bool × List (List Nat × List Nat) := (true, [([], []), ([0], [0]), ([], []), ([1, 2], [1, 2]), ([], []), ([4], [4]), ([3, 5, 3], [3, 5]), ([6], [6]), ([7], [7]), ([7], [7]), ([8, 6, 0, 1, 2, 3, 4, 5, 6, 7, 8], [8]), ([9, 10, 0, 1, 2, 3, 4, 5, 6, 7, 8, 9, 10], [9])])
def xbK.B4 : List Nat := [0, 1, 0, 7, 0, 16, 63, 127, 255, 255, 511, 2047]
theorem xbK.tab4 : rtab .any (opsOf Try.f66 4) = xbK.T4 := by kernel_rfl
theorem xbK.bits4 : xfP xbK.T4.2 xbK.B4 = true := by kernel_rfl
set_option maxHeartbeats 8000000 in
set_option maxRecDepth 100000 in
theorem xbK.calls (k : Nat) (a0_0 : Bool) (A0_1 : Option Addr) (c0_1 : Nat) (l0_1 : List Int) (a0_2 : Int) (a1_0 : Bool) (A1_1 : Option Addr) (c1_1 : Nat) (l1_1 : List Int) (a1_2 : Int) (r : Int) (w : World) (hr0_1 : Kd.C (Kd.int .u64) w A0_1 l0_1.length l0_1) (hc0_1 : l0_1.length ≤ c0_1) (hr1_1 : Kd.C (Kd.int .u64) w A1_1 l1_1.length l1_1) (hc1_1 : l1_1.length ≤ c1_1) (h : xbK.f k a0_0 l0_1 a0_2 a1_0 l1_1 a1_2 = some r) :
  Calls Try.prog 66 #[.agg #[.bool a0_0, .slice A0_1 l0_1.length c0_1, .int .i64 a0_2], .agg #[.bool a1_0, .slice A1_1 l1_1.length c1_1, .int .i64 a1_2]] w fun e w' => e = .returned (.int .u64 r) ∧ Below w.heap.size w w' := by
 have hu96 := Try.underlying96;have HR0_1 := Aside0.mk hr0_1;have HC0_1 := Aside0.mk hc0_1;clear hr0_1 hc0_1;have HR1_1 := Aside0.mk hr1_1;have HC1_1 := Aside0.mk hc1_1;clear hr1_1 hc1_1
 have HB := Aside0.mk (Below.refl w.heap.size w)
 have H : ((xdB.f a0_0 l0_1 a0_2).bind fun t427 => (if t427 = true then (some 0) else ((xbC.f k l0_1).bind fun t428 => ((xbC.f k l1_1).bind fun t429 => ((xbA.f k l0_1 (mx 0 (wrap64 ((wrap64 (70 - t428)) + t429)))).bind fun t430 => ((xaS.f k t430 l1_1).bind fun bt433 => ((xaV.f k a0_0 bt433.1 (wrap64 ((wrap64 (a0_2 - (mx 0 (wrap64 ((wrap64 (70 - t428)) + t429))))) - a1_2)) (decide ((bt433.2.length : Int) > 0))).bind fun t439 => (some t439)))))))) = some r := h
 clear h;replace H := Option.bind_eq_some_iff.mp H
 obtain ⟨t427, A30, H⟩ := H
 replace H : (if t427 = true then (some 0) else ((xbC.f k l0_1).bind fun t428 => ((xbC.f k l1_1).bind fun t429 => ((xbA.f k l0_1 (mx 0 (wrap64 ((wrap64 (70 - t428)) + t429)))).bind fun t430 => ((xaS.f k t430 l1_1).bind fun bt433 => ((xaV.f k a0_0 bt433.1 (wrap64 ((wrap64 (a0_2 - (mx 0 (wrap64 ((wrap64 (70 - t428)) + t429))))) - a1_2)) (decide ((bt433.2.length : Int) > 0))).bind fun t439 => (some t439))))))) = some r := H
 have A3 := Aside0.mk A30;clear A30
 by_cases c4 : t427 = true
 ·
  subst c4
  have H1 : (some 0) = some r := by rw [if_pos rfl] at H; exact H
  clear H;have H := H1;clear H1
  obtain rfl := Option.some.inj H
  go_enter Try.func66, Try.ntmps66
  go_wp2_with (first | ((with_reducible refine xbM (N := 2) rfl ?_); refine xbJ ?hg (N := 2) ?hd (cs := #[.bool a0_0, .slice A0_1 l0_1.length c0_1, .int .i64 a0_2]) (t := 96) ?hr ?_; (case hd => rfl); (case hg => rfl); (case hr => first | (go_simp; done) | (go_simp; rfl)); intro gb425 hg w5 hbox hb; have n0_ := Aside0.mk (xaP (by repeat (first | (with_reducible first | exact HB.out | apply xaB | apply xaA | apply xaC) | exact HB.out)) hb); have n1_ := Aside0.mk (hbox); have n2_ := Aside0.mk ((by rw [hg]; exact (xaR (by repeat (first | (with_reducible first | exact HB.out | apply xaB | apply xaA | apply xaC) | exact HB.out))) : w.heap.size ≤ gb425)); have n3_ := Aside0.mk ((by rw [hg]; exact (xaR (by repeat (first | (with_reducible first | exact HB.out | apply xaB | apply xaA | apply xaC) | exact HB.out))) : w.heap.size ≤ gb425)); clear HB; have HB := n0_; have BK425 := n1_; have GW425 := n2_; have GE425 := n3_; clear n0_ n1_ n2_ n3_; clear hb hbox hg) | ((with_reducible refine xbM (N := 3) rfl ?_); refine xbJ ?hg (N := 3) ?hd (cs := #[.bool a1_0, .slice A1_1 l1_1.length c1_1, .int .i64 a1_2]) (t := 96) ?hr ?_; (case hd => rfl); (case hg => rfl); (case hr => first | (go_simp; done) | (go_simp; rfl)); intro gb426 hg w6 hbox hb; have n0_ := Aside0.mk (xaY (g := gb425) (o := .cells #[.bool a0_0, .slice A0_1 l0_1.length c0_1, .int .i64 a0_2] 96 (0, 0)) (by (with_reducible repeat (first | refine xaG ?_ _ | refine xaJ ?_ | refine xaH ?_ _)); exact BK425.out) hb); have n1_ := Aside0.mk (xaP (by repeat (first | (with_reducible first | exact HB.out | apply xaB | apply xaA | apply xaC | refine xaF ?_ GE425.out) | exact HB.out)) hb); have n2_ := Aside0.mk (hbox); have n3_ := Aside0.mk ((by rw [hg]; exact (xaR (by repeat (first | (with_reducible first | exact HB.out | apply xaB | apply xaA | apply xaC | refine xaF ?_ GE425.out) | exact HB.out))) : w.heap.size ≤ gb426)); have n4_ := Aside0.mk ((by rw [hg]; exact (xaR (by repeat (first | (with_reducible first | exact HB.out | apply xaB | apply xaA | apply xaC | refine xaF ?_ GE425.out) | exact HB.out))) : w.heap.size ≤ gb426)); have n5_ := Aside0.mk ((by rw [hg]; exact Nat.ne_of_lt (blk_lt (g := gb425) (o := .cells #[.bool a0_0, .slice A0_1 l0_1.length c0_1, .int .i64 a0_2] 96 (0, 0)) (by (with_reducible repeat (first | refine xaG ?_ _ | refine xaJ ?_ | refine xaH ?_ _)); exact BK425.out)) : gb425 ≠ gb426)); have n6_ := Aside0.mk ((by rw [hg]; exact Nat.ne_of_gt (blk_lt (g := gb425) (o := .cells #[.bool a0_0, .slice A0_1 l0_1.length c0_1, .int .i64 a0_2] 96 (0, 0)) (by (with_reducible repeat (first | refine xaG ?_ _ | refine xaJ ?_ | refine xaH ?_ _)); exact BK425.out)) : gb426 ≠ gb425)); clear BK425; clear HB; have BK425 := n0_; have HB := n1_; have BK426 := n2_; have GW426 := n3_; have GE426 := n4_; have NB425_426 := n5_; have NB426_425 := n6_; clear n0_ n1_ n2_ n3_ n4_ n5_ n6_; clear hb hbox hg; have hnb7 := NB425_426.out; have hnc7 := NB426_425.out; have hcz8_0 : w6.cell? ⟨gb425, 0, none⟩ = some (.bool a0_0) := (xaE BK425.out 0).trans rfl; have hcz8_1 : w6.cell? ⟨gb425, 1, none⟩ = some (.slice A0_1 l0_1.length c0_1) := (xaE BK425.out 1).trans rfl; have hcz8_2 : w6.cell? ⟨gb425, 2, none⟩ = some (.int .i64 a0_2) := (xaE BK425.out 2).trans rfl; have hfz8_0 := xaD BK425.out 0; have hfz8_1 := xaD BK425.out 1; have hfz8_2 := xaD BK425.out 2) | ((with_reducible refine xaQ (f := 99) rfl ?_); refine goesL_ (some 9) rfl rfl Try.func99 (by kernel_rfl) rfl #[.agg #[.bool a0_0, .slice A0_1 l0_1.length c0_1, .int .i64 a0_2]] rfl (by (try simp only [List.map_toArray, List.map_cons, List.map_nil]); first | done | rfl | (simp only [List.length_drop, List.length_take]; rfl)) ?_; (with_reducible refine (xdB.calls a0_0 _ _ l0_1 a0_2 true _ ?side1 ?side2 A3.out).mono ?_); (case side1 => repeat (first | exact (Kd.xbT HR0_1.out HB.out) | (with_reducible refine Kd.xbF ?_ _) | (with_reducible refine Kd.xbE ?_ _) | (with_reducible refine Kd.C_drew ?_))); (case side2 => exact HC0_1.out); rintro e w9 ⟨rfl, hb⟩; refine ⟨_, rfl, ?_⟩; have n0_ := Aside0.mk (xaY (g := gb425) (o := .cells #[.bool a0_0, .slice A0_1 l0_1.length c0_1, .int .i64 a0_2] 96 (0, 0)) (by (with_reducible repeat (first | refine xaG ?_ _ | refine xaJ ?_ | refine xaH ?_ _)); exact BK425.out) hb); have n1_ := Aside0.mk (xaY (g := gb426) (o := .cells #[.bool a1_0, .slice A1_1 l1_1.length c1_1, .int .i64 a1_2] 96 (0, 0)) (by (with_reducible repeat (first | refine xaG ?_ _ | refine xaJ ?_ | refine xaH ?_ _)); exact BK426.out) hb); have n2_ := Aside0.mk (xaP (by repeat (first | (with_reducible first | exact HB.out | apply xaB | apply xaA | apply xaC | refine xaF ?_ GE425.out | refine xaF ?_ GE426.out) | exact HB.out)) hb); clear BK425; clear BK426; clear HB; have BK425 := n0_; have BK426 := n1_; have HB := n2_; clear n0_ n1_ n2_; (try clear hb); (try clear hb2); (try clear hk); (try clear hi)))
  go_ret
  exact ⟨by first | rfl | (simp [xaL, xaK] <;> rfl) | (simp [*, xaL, xaK] <;> rfl), by repeat (first | (with_reducible first | exact HB.out | apply xaB | apply xaA | apply xaC | refine xaF ?_ GE425.out | refine xaF ?_ GE426.out) | exact HB.out)⟩
 ·
  replace c4 := Bool.eq_false_iff.mpr c4;subst c4
  have H1 : ((xbC.f k l0_1).bind fun t428 => ((xbC.f k l1_1).bind fun t429 => ((xbA.f k l0_1 (mx 0 (wrap64 ((wrap64 (70 - t428)) + t429)))).bind fun t430 => ((xaS.f k t430 l1_1).bind fun bt433 => ((xaV.f k a0_0 bt433.1 (wrap64 ((wrap64 (a0_2 - (mx 0 (wrap64 ((wrap64 (70 - t428)) + t429))))) - a1_2)) (decide ((bt433.2.length : Int) > 0))).bind fun t439 => (some t439)))))) = some r := by rw [if_neg (show ¬ (false = true) by decide)] at H; exact H
  clear H;have H := H1;clear H1;replace H := Option.bind_eq_some_iff.mp H
  obtain ⟨t428, A100, H⟩ := H
  replace H : ((xbC.f k l1_1).bind fun t429 => ((xbA.f k l0_1 (mx 0 (wrap64 ((wrap64 (70 - t428)) + t429)))).bind fun t430 => ((xaS.f k t430 l1_1).bind fun bt433 => ((xaV.f k a0_0 bt433.1 (wrap64 ((wrap64 (a0_2 - (mx 0 (wrap64 ((wrap64 (70 - t428)) + t429))))) - a1_2)) (decide ((bt433.2.length : Int) > 0))).bind fun t439 => (some t439))))) = some r := H
  have A10 := Aside0.mk A100;clear A100;replace H := Option.bind_eq_some_iff.mp H
  obtain ⟨t429, A110, H⟩ := H
  replace H : ((xbA.f k l0_1 (mx 0 (wrap64 ((wrap64 (70 - t428)) + t429)))).bind fun t430 => ((xaS.f k t430 l1_1).bind fun bt433 => ((xaV.f k a0_0 bt433.1 (wrap64 ((wrap64 (a0_2 - (mx 0 (wrap64 ((wrap64 (70 - t428)) + t429))))) - a1_2)) (decide ((bt433.2.length : Int) > 0))).bind fun t439 => (some t439)))) = some r := H
  have A11 := Aside0.mk A110;clear A110
  obtain ⟨ji12, hji12⟩ : ∃ j_ : Int, (mx 0 (wrap64 ((wrap64 (70 - t428)) + t429))) = j_ := ⟨_, rfl⟩
  replace H : ((xbA.f k l0_1 (ji12)).bind fun t430 => ((xaS.f k t430 l1_1).bind fun bt433 => ((xaV.f k a0_0 bt433.1 (wrap64 ((wrap64 (a0_2 - (ji12))) - a1_2)) (decide ((bt433.2.length : Int) > 0))).bind fun t439 => (some t439)))) = some r := by first | (rw [hji12] at H; exact H) | (simp only [hji12] at H ⊢; exact H)
  (try rw [hji12] at A3)
  (try rw [hji12] at A10)
  (try rw [hji12] at A11)
  (try (have hji12l : 0 ≤ ji12 := by (rw [← hji12]; unfold mx; (repeat' split) <;> omega)))
  (try (have hji12m : 0 ≤ ji12 := by omega))
  have hji12_ : (if 0 < (wrap64 ((wrap64 (70 - t428)) + t429)) then (wrap64 ((wrap64 (70 - t428)) + t429)) else 0) = ji12 := hji12
  replace H := Option.bind_eq_some_iff.mp H
  obtain ⟨t430, A130, H⟩ := H
  replace H : ((xaS.f k t430 l1_1).bind fun bt433 => ((xaV.f k a0_0 bt433.1 (wrap64 ((wrap64 (a0_2 - (ji12))) - a1_2)) (decide ((bt433.2.length : Int) > 0))).bind fun t439 => (some t439))) = some r := H
  have A13 := Aside0.mk A130;clear A130;replace H := Option.bind_eq_some_iff.mp H
  obtain ⟨⟨t433, t434⟩, A140, H⟩ := H
  replace H : ((xaV.f k a0_0 t433 (wrap64 ((wrap64 (a0_2 - (ji12))) - a1_2)) (decide ((t434.length : Int) > 0))).bind fun t439 => (some t439)) = some r := H
  have A14 := Aside0.mk A140;clear A140;replace H := Option.bind_eq_some_iff.mp H
  obtain ⟨t439, A150, H⟩ := H
  replace H : (some t439) = some r := H
  have A15 := Aside0.mk A150;clear A150
  obtain rfl := Option.some.inj H
  go_enter Try.func66, Try.ntmps66
  try go_wp2_with (first | ((with_reducible refine xbM (N := 2) rfl ?_); refine xbJ ?hg (N := 2) ?hd (cs := #[.bool a0_0, .slice A0_1 l0_1.length c0_1, .int .i64 a0_2]) (t := 96) ?hr ?_; (case hd => rfl); (case hg => rfl); (case hr => first | (go_simp; done) | (go_simp; rfl)); intro gb425 hg w16 hbox hb; have n0_ := Aside0.mk (xaP (by repeat (first | (with_reducible first | exact HB.out | apply xaB | apply xaA | apply xaC) | exact HB.out)) hb); have n1_ := Aside0.mk (hbox); have n2_ := Aside0.mk ((by rw [hg]; exact (xaR (by repeat (first | (with_reducible first | exact HB.out | apply xaB | apply xaA | apply xaC) | exact HB.out))) : w.heap.size ≤ gb425)); have n3_ := Aside0.mk ((by rw [hg]; exact (xaR (by repeat (first | (with_reducible first | exact HB.out | apply xaB | apply xaA | apply xaC) | exact HB.out))) : w.heap.size ≤ gb425)); clear HB; have HB := n0_; have BK425 := n1_; have GW425 := n2_; have GE425 := n3_; clear n0_ n1_ n2_ n3_; clear hb hbox hg) | ((with_reducible refine xbM (N := 3) rfl ?_); refine xbJ ?hg (N := 3) ?hd (cs := #[.bool a1_0, .slice A1_1 l1_1.length c1_1, .int .i64 a1_2]) (t := 96) ?hr ?_; (case hd => rfl); (case hg => rfl); (case hr => first | (go_simp; done) | (go_simp; rfl)); intro gb426 hg w17 hbox hb; have n0_ := Aside0.mk (xaY (g := gb425) (o := .cells #[.bool a0_0, .slice A0_1 l0_1.length c0_1, .int .i64 a0_2] 96 (0, 0)) (by (with_reducible repeat (first | refine xaG ?_ _ | refine xaJ ?_ | refine xaH ?_ _)); exact BK425.out) hb); have n1_ := Aside0.mk (xaP (by repeat (first | (with_reducible first | exact HB.out | apply xaB | apply xaA | apply xaC | refine xaF ?_ GE425.out) | exact HB.out)) hb); have n2_ := Aside0.mk (hbox); have n3_ := Aside0.mk ((by rw [hg]; exact (xaR (by repeat (first | (with_reducible first | exact HB.out | apply xaB | apply xaA | apply xaC | refine xaF ?_ GE425.out) | exact HB.out))) : w.heap.size ≤ gb426)); have n4_ := Aside0.mk ((by rw [hg]; exact (xaR (by repeat (first | (with_reducible first | exact HB.out | apply xaB | apply xaA | apply xaC | refine xaF ?_ GE425.out) | exact HB.out))) : w.heap.size ≤ gb426)); have n5_ := Aside0.mk ((by rw [hg]; exact Nat.ne_of_lt (blk_lt (g := gb425) (o := .cells #[.bool a0_0, .slice A0_1 l0_1.length c0_1, .int .i64 a0_2] 96 (0, 0)) (by (with_reducible repeat (first | refine xaG ?_ _ | refine xaJ ?_ | refine xaH ?_ _)); exact BK425.out)) : gb425 ≠ gb426)); have n6_ := Aside0.mk ((by rw [hg]; exact Nat.ne_of_gt (blk_lt (g := gb425) (o := .cells #[.bool a0_0, .slice A0_1 l0_1.length c0_1, .int .i64 a0_2] 96 (0, 0)) (by (with_reducible repeat (first | refine xaG ?_ _ | refine xaJ ?_ | refine xaH ?_ _)); exact BK425.out)) : gb426 ≠ gb425)); clear BK425; clear HB; have BK425 := n0_; have HB := n1_; have BK426 := n2_; have GW426 := n3_; have GE426 := n4_; have NB425_426 := n5_; have NB426_425 := n6_; clear n0_ n1_ n2_ n3_ n4_ n5_ n6_; clear hb hbox hg; have hnb18 := NB425_426.out; have hnc18 := NB426_425.out; have hcz19_0 : w17.cell? ⟨gb425, 0, none⟩ = some (.bool a0_0) := (xaE BK425.out 0).trans rfl; have hcz19_1 : w17.cell? ⟨gb425, 1, none⟩ = some (.slice A0_1 l0_1.length c0_1) := (xaE BK425.out 1).trans rfl; have hcz19_2 : w17.cell? ⟨gb425, 2, none⟩ = some (.int .i64 a0_2) := (xaE BK425.out 2).trans rfl; have hfz19_0 := xaD BK425.out 0; have hfz19_1 := xaD BK425.out 1; have hfz19_2 := xaD BK425.out 2) | ((with_reducible refine xaQ (f := 99) rfl ?_); refine goesL_ (some 9) rfl rfl Try.func99 (by kernel_rfl) rfl #[.agg #[.bool a0_0, .slice A0_1 l0_1.length c0_1, .int .i64 a0_2]] rfl (by (try simp only [List.map_toArray, List.map_cons, List.map_nil]); first | done | rfl | (simp only [List.length_drop, List.length_take]; rfl)) ?_; (with_reducible refine (xdB.calls a0_0 _ _ l0_1 a0_2 false _ ?side1 ?side2 A3.out).mono ?_); (case side1 => repeat (first | exact (Kd.xbT HR0_1.out HB.out) | (with_reducible refine Kd.xbF ?_ _) | (with_reducible refine Kd.xbE ?_ _) | (with_reducible refine Kd.C_drew ?_))); (case side2 => exact HC0_1.out); rintro e w20 ⟨rfl, hb⟩; refine ⟨_, rfl, ?_⟩; have n0_ := Aside0.mk (xaY (g := gb425) (o := .cells #[.bool a0_0, .slice A0_1 l0_1.length c0_1, .int .i64 a0_2] 96 (0, 0)) (by (with_reducible repeat (first | refine xaG ?_ _ | refine xaJ ?_ | refine xaH ?_ _)); exact BK425.out) hb); have n1_ := Aside0.mk (xaY (g := gb426) (o := .cells #[.bool a1_0, .slice A1_1 l1_1.length c1_1, .int .i64 a1_2] 96 (0, 0)) (by (with_reducible repeat (first | refine xaG ?_ _ | refine xaJ ?_ | refine xaH ?_ _)); exact BK426.out) hb); have n2_ := Aside0.mk (xaP (by repeat (first | (with_reducible first | exact HB.out | apply xaB | apply xaA | apply xaC | refine xaF ?_ GE425.out | refine xaF ?_ GE426.out) | exact HB.out)) hb); clear BK425; clear BK426; clear HB; have BK425 := n0_; have BK426 := n1_; have HB := n2_; clear n0_ n1_ n2_; (try clear hb); (try clear hb2); (try clear hk); (try clear hi)))
  have n0_ := Aside0.mk (xaJ BK425.out)
  have n1_ := Aside0.mk (xaJ BK426.out)
  have n2_ := Aside0.mk (xaC HB.out)
  clear BK425 BK426 HB;have BK425 := n0_;have BK426 := n1_;have HB := n2_;clear n0_ n1_ n2_
  refine start_ (n := 10) (S := fun w' => w'.cell? ⟨gb425, 0, none⟩ = some (.bool a0_0) ∧ w'.cell? ⟨gb425, 1, none⟩ = some (.slice A0_1 l0_1.length c0_1) ∧ w'.cell? ⟨gb425, 2, none⟩ = some (.int .i64 a0_2) ∧ w'.cell? ⟨gb426, 0, none⟩ = some (.bool a1_0) ∧ w'.cell? ⟨gb426, 1, none⟩ = some (.slice A1_1 l1_1.length c1_1) ∧ w'.cell? ⟨gb426, 2, none⟩ = some (.int .i64 a1_2)) (ds := []) #[false, false, false, false, false, false, false, false, false, false] (by kernel_rfl) rfl rfl ⟨(xaE BK425.out 0).trans rfl, (xaE BK425.out 1).trans rfl, (xaE BK425.out 2).trans rfl, (xaE BK426.out 0).trans rfl, (xaE BK426.out 1).trans rfl, (xaE BK426.out 2).trans rfl⟩ (fun hHeld => ?_); refine xeR xbK.tab3 xbK.bits3 (fun HT_ HW_ => ?_)
  generalize w20.drew = w21 at BK425 BK426 HB hHeld ⊢
  refine pure_ (i := 0) (N := some 10) (v := ?_) (a' := ?_) #[true, false, false, false, false, false, false, false, false, false] rfl rfl (any_of HT_.out (by kernel_rfl)) (fun _ _ _ h => h) (Or.inl ⟨by rfl, ?_⟩) ?_ ?_
  rotate_left
  ·
   intro w'
   go_simp
   with_reducible rfl
  rotate_left
  ·
   simp only [Act.put, List.setIfInBounds_toArray, List.set_cons_zero, List.set_cons_succ, i64_w, i32_w]
   rfl
  refine pure_ (i := 4) (N := some 14) (v := ?_) (a' := ?_) #[true, false, false, false, true, false, false, false, false, false] rfl rfl (any_of HT_.out (by kernel_rfl)) (fun _ _ _ h => h) (Or.inl ⟨by rfl, ?_⟩) ?_ ?_
  rotate_left
  ·
   intro w'
   go_simp
   with_reducible rfl
  rotate_left
  ·
   simp only [Act.put, List.setIfInBounds_toArray, List.set_cons_zero, List.set_cons_succ, i64_w, i32_w]
   rfl
  refine take_ (i := 1) (N := some 11) (v := ?_) (a' := ?_) #[true, true, false, false, true, false, false, false, false, false] rfl rfl (xdY HT_.out HW_.out (by kernel_rfl)) (fun _ _ _ h => h) (Or.inl ⟨by rfl, ?_⟩) hHeld ?_ ?_
  rotate_left
  ·
   rintro w' ⟨s0, s1, s2, s3, s4, s5⟩
   go_simp
   with_reducible rfl
  rotate_left
  ·
   simp only [Act.put, List.setIfInBounds_toArray, List.set_cons_zero, List.set_cons_succ, i64_w, i32_w]
   rfl
  refine take_ (i := 5) (N := some 15) (v := ?_) (a' := ?_) #[true, true, false, false, true, true, false, false, false, false] rfl rfl (xdY HT_.out HW_.out (by kernel_rfl)) (fun _ _ _ h => h) (Or.inl ⟨by rfl, ?_⟩) hHeld ?_ ?_
  rotate_left
  ·
   rintro w' ⟨s0, s1, s2, s3, s4, s5⟩
   go_simp
   with_reducible rfl
  rotate_left
  ·
   simp only [Act.put, List.setIfInBounds_toArray, List.set_cons_zero, List.set_cons_succ, i64_w, i32_w]
   rfl
  refine one_ (i := 2) (N := some 12) #[true, true, true, false, true, true, false, false, false, false] rfl rfl (one_of HT_.out (by kernel_rfl)) (by decide) (fun K hK => ?_)
  refine goes_ Try.func100 (by kernel_rfl) rfl #[.slice A0_1 l0_1.length c0_1] (by rfl) rfl rfl (by (try simp only [List.map_toArray, List.map_cons, List.map_nil]); first | done | rfl | (simp only [List.length_drop, List.length_take]; rfl)) ?_
  with_reducible refine (xbC.calls k _ _ l0_1 t428 _ ?side1 ?side2 A10.out).mono ?_
  (case side1 => repeat (first | exact (Kd.xbT HR0_1.out HB.out) | (with_reducible refine Kd.xbF ?_ _) | (with_reducible refine Kd.xbE ?_ _) | (with_reducible refine Kd.C_drew ?_)))
  (case side2 => exact HC0_1.out)
  rintro e w' ⟨rfl, ⟨nd, rfl⟩⟩
  refine ⟨_, rfl, ?_⟩
  refine hK.out _ _ ⟨(xaE BK425.out 0).trans rfl, (xaE BK425.out 1).trans rfl, (xaE BK425.out 2).trans rfl, (xaE BK426.out 0).trans rfl, (xaE BK426.out 1).trans rfl, (xaE BK426.out 2).trans rfl⟩ (fun hHeld => ?_)
  clear hK K
  refine norm_ (a' := ?_) ?_ ?_
  rotate_left
  ·
   show Act.put _ (some 12) _ = _
   simp only [Act.put, List.setIfInBounds_toArray, List.set_cons_zero, List.set_cons_succ, i64_w, i32_w]
   rfl
  refine pure_ (i := 3) (N := some 13) (v := ?_) (a' := ?_) #[true, true, true, true, true, true, false, false, false, false] rfl rfl (any_of HT_.out (by kernel_rfl)) (fun _ _ _ h => h) (Or.inl ⟨by rfl, ?_⟩) ?_ ?_
  rotate_left
  ·
   intro w'
   go_simp
   with_reducible rfl
  rotate_left
  ·
   simp only [Act.put, List.setIfInBounds_toArray, List.set_cons_zero, List.set_cons_succ, i64_w, i32_w]
   rfl
  refine one_ (i := 6) (N := some 16) #[true, true, true, true, true, true, true, false, false, false] rfl rfl (one_of HT_.out (by kernel_rfl)) (by decide) (fun K hK => ?_)
  refine goes_ Try.func100 (by kernel_rfl) rfl #[.slice A1_1 l1_1.length c1_1] (by rfl) rfl rfl (by (try simp only [List.map_toArray, List.map_cons, List.map_nil]); first | done | rfl | (simp only [List.length_drop, List.length_take]; rfl)) ?_
  with_reducible refine (xbC.calls k _ _ l1_1 t429 _ ?side1 ?side2 A11.out).mono ?_
  (case side1 => repeat (first | exact (Kd.xbT HR1_1.out (by repeat (first | (with_reducible first | exact HB.out | apply xaB | apply xaA | apply xaC | refine xaF ?_ GE425.out | refine xaF ?_ GE426.out) | exact HB.out))) | (with_reducible refine Kd.xbF ?_ _) | (with_reducible refine Kd.xbE ?_ _) | (with_reducible refine Kd.C_drew ?_)))
  (case side2 => exact HC1_1.out)
  rintro e w' ⟨rfl, ⟨nd, rfl⟩⟩
  refine ⟨_, rfl, ?_⟩
  refine hK.out _ _ ⟨(xaE BK425.out 0).trans rfl, (xaE BK425.out 1).trans rfl, (xaE BK425.out 2).trans rfl, (xaE BK426.out 0).trans rfl, (xaE BK426.out 1).trans rfl, (xaE BK426.out 2).trans rfl⟩ (fun hHeld => ?_)
  clear hK K
  refine norm_ (a' := ?_) ?_ ?_
  rotate_left
  ·
   show Act.put _ (some 16) _ = _
   simp only [Act.put, List.setIfInBounds_toArray, List.set_cons_zero, List.set_cons_succ, i64_w, i32_w]
   rfl
  refine pure_ (i := 7) (N := some 17) (v := ?_) (a' := ?_) #[true, true, true, true, true, true, true, true, false, false] rfl rfl (any_of HT_.out (by kernel_rfl)) (fun _ _ _ h => h) (Or.inl ⟨by rfl, ?_⟩) ?_ ?_
  rotate_left
  ·
   intro w'
   go_simp
   with_reducible rfl
  rotate_left
  ·
   simp only [Act.put, List.setIfInBounds_toArray, List.set_cons_zero, List.set_cons_succ, i64_w, i32_w]
   rfl
  refine pure_ (i := 8) (N := some 18) (v := ?_) (a' := ?_) #[true, true, true, true, true, true, true, true, true, false] rfl rfl (any_of HT_.out (by kernel_rfl)) (fun _ _ _ h => h) (Or.inl ⟨by rfl, ?_⟩) ?_ ?_
  rotate_left
  ·
   intro w'
   go_simp
   with_reducible rfl
  rotate_left
  ·
   simp only [Act.put, List.setIfInBounds_toArray, List.set_cons_zero, List.set_cons_succ, i64_w, i32_w]
   rfl
  refine pure_ (i := 9) (N := some 5) (v := ?_) (a' := ?_) #[true, true, true, true, true, true, true, true, true, true] rfl rfl (any_of HT_.out (by kernel_rfl)) (fun _ _ _ h => h) (Or.inl ⟨by rfl, ?_⟩) ?_ ?_
  rotate_left
  ·
   intro w'
   go_simp
   with_reducible rfl
  rotate_left
  ·
   simp only [Act.put, List.setIfInBounds_toArray, List.set_cons_zero, List.set_cons_succ, i64_w, i32_w]
   rfl
  refine done_ (xgB HT_.out (by kernel_rfl)) ?_
  try go_wp2
  (try simp only [World.drewN_drewN])
  (try (rw [xeZ w21]; generalize hq_ : World.drewN w21 _ = w21; have n0_ : Aside0 (w21.heap[gb425]? = some (.cells #[.bool a0_0, .slice A0_1 l0_1.length c0_1, .int .i64 a0_2] 96 (0, 0))) := ⟨by rw [← hq_]; exact (by (with_reducible repeat (first | refine xaG ?_ _ | refine xaJ ?_ | refine xaH ?_ _)); exact BK425.out)⟩; have n1_ : Aside0 (w21.heap[gb426]? = some (.cells #[.bool a1_0, .slice A1_1 l1_1.length c1_1, .int .i64 a1_2] 96 (0, 0))) := ⟨by rw [← hq_]; exact (by (with_reducible repeat (first | refine xaG ?_ _ | refine xaJ ?_ | refine xaH ?_ _)); exact BK426.out)⟩; have n2_ : Aside0 (Below w.heap.size w w21) := ⟨by rw [← hq_]; exact (by repeat (first | (with_reducible first | exact HB.out | apply xaB | apply xaA | apply xaC | refine xaF ?_ GE425.out | refine xaF ?_ GE426.out) | exact HB.out))⟩; clear BK425 BK426 HB hq_; have BK425 := n0_; have BK426 := n1_; have HB := n2_; clear n0_ n1_ n2_))
  have n0_ := Aside0.mk (xaJ BK425.out)
  have n1_ := Aside0.mk (xaJ BK426.out)
  have n2_ := Aside0.mk (xaC HB.out)
  clear BK425 BK426 HB;have BK425 := n0_;have BK426 := n1_;have HB := n2_;clear n0_ n1_ n2_
  refine start_ (n := 12) (S := fun w' => w'.cell? ⟨gb425, 0, none⟩ = some (.bool a0_0) ∧ w'.cell? ⟨gb425, 1, none⟩ = some (.slice A0_1 l0_1.length c0_1) ∧ w'.cell? ⟨gb425, 2, none⟩ = some (.int .i64 a0_2) ∧ w'.cell? ⟨gb426, 0, none⟩ = some (.bool a1_0) ∧ w'.cell? ⟨gb426, 1, none⟩ = some (.slice A1_1 l1_1.length c1_1) ∧ w'.cell? ⟨gb426, 2, none⟩ = some (.int .i64 a1_2)) (ds := []) #[false, false, false, false, false, false, false, false, false, false, false, false] (by kernel_rfl) rfl rfl ⟨(xaE BK425.out 0).trans rfl, (xaE BK425.out 1).trans rfl, (xaE BK425.out 2).trans rfl, (xaE BK426.out 0).trans rfl, (xaE BK426.out 1).trans rfl, (xaE BK426.out 2).trans rfl⟩ (fun hHeld => ?_); refine xeR xbK.tab4 xbK.bits4 (fun HT_ HW_ => ?_)
  generalize w21.drew = w22 at BK425 BK426 HB hHeld ⊢
  refine pure_ (i := 0) (N := some 20) (v := ?_) (a' := ?_) #[true, false, false, false, false, false, false, false, false, false, false, false] rfl rfl (any_of HT_.out (by kernel_rfl)) (fun _ _ _ h => h) (Or.inl ⟨by rfl, ?_⟩) ?_ ?_
  rotate_left
  ·
   intro w'
   go_simp
   with_reducible rfl
  rotate_left
  ·
   simp only [Act.put, List.setIfInBounds_toArray, List.set_cons_zero, List.set_cons_succ, i64_w, i32_w]
   rfl
  refine pure_ (i := 2) (N := some 22) (v := ?_) (a' := ?_) #[true, false, true, false, false, false, false, false, false, false, false, false] rfl rfl (any_of HT_.out (by kernel_rfl)) (fun _ _ _ h => h) (Or.inl ⟨by rfl, ?_⟩) ?_ ?_
  rotate_left
  ·
   intro w'
   go_simp
   with_reducible rfl
  rotate_left
  ·
   simp only [Act.put, List.setIfInBounds_toArray, List.set_cons_zero, List.set_cons_succ, i64_w, i32_w]
   rfl
  refine pure_ (i := 4) (N := some 24) (v := ?_) (a' := ?_) #[true, false, true, false, true, false, false, false, false, false, false, false] rfl rfl (any_of HT_.out (by kernel_rfl)) (fun _ _ _ h => h) (Or.inl ⟨by rfl, ?_⟩) ?_ ?_
  rotate_left
  ·
   intro w'
   go_simp
   with_reducible rfl
  rotate_left
  ·
   simp only [Act.put, List.setIfInBounds_toArray, List.set_cons_zero, List.set_cons_succ, i64_w, i32_w]
   rfl
  refine take_ (i := 1) (N := some 21) (v := ?_) (a' := ?_) #[true, true, true, false, true, false, false, false, false, false, false, false] rfl rfl (xdY HT_.out HW_.out (by kernel_rfl)) (fun _ _ _ h => h) (Or.inl ⟨by rfl, ?_⟩) hHeld ?_ ?_
  rotate_left
  ·
   rintro w' ⟨s0, s1, s2, s3, s4, s5⟩
   go_simp
   with_reducible rfl
  rotate_left
  ·
   simp only [Act.put, List.setIfInBounds_toArray, List.set_cons_zero, List.set_cons_succ, i64_w, i32_w]
   rfl
  refine take_ (i := 5) (N := some 25) (v := ?_) (a' := ?_) #[true, true, true, false, true, true, false, false, false, false, false, false] rfl rfl (xdY HT_.out HW_.out (by kernel_rfl)) (fun _ _ _ h => h) (Or.inl ⟨by rfl, ?_⟩) hHeld ?_ ?_
  rotate_left
  ·
   rintro w' ⟨s0, s1, s2, s3, s4, s5⟩
   go_simp
   with_reducible rfl
  rotate_left
  ·
   simp only [Act.put, List.setIfInBounds_toArray, List.set_cons_zero, List.set_cons_succ, i64_w, i32_w]
   rfl
  refine one_ (i := 3) (N := some 23) #[true, true, true, true, true, true, false, false, false, false, false, false] rfl rfl (one_of HT_.out (by kernel_rfl)) (by decide) (fun K hK => ?_)
  refine goes_ Try.func102 (by kernel_rfl) rfl #[.slice A0_1 l0_1.length c0_1, .int .i64 ji12] (by rfl) rfl rfl (by (try simp only [List.map_toArray, List.map_cons, List.map_nil]); first | done | (simp only [hji12]; rfl) | rfl | (simp only [List.length_drop, List.length_take]; rfl)) ?_
  with_reducible refine (xbA.calls k _ _ l0_1 ji12 t430 _ ?side1 ?side2 A13.out).mono ?_
  (case side1 => repeat (first | exact (Kd.xbT HR0_1.out HB.out) | (with_reducible refine Kd.xbF ?_ _) | (with_reducible refine Kd.xbE ?_ _) | (with_reducible refine Kd.C_drew ?_)))
  (case side2 => exact HC0_1.out)
  rintro e w23 ⟨v431, rfl, ho0, hb⟩
  refine ⟨_, rfl, ?_⟩
  have n0_ := Aside0.mk (Kd.xdR ho0 (xaR (by repeat (first | (with_reducible first | exact HB.out | apply xaB | apply xaA | apply xaC | refine xaF ?_ GE425.out | refine xaF ?_ GE426.out) | exact HB.out))))
  have n1_ := Aside0.mk (xaY (g := gb425) (o := .cells #[.bool a0_0, .slice A0_1 l0_1.length c0_1, .int .i64 a0_2] 96 (0, 0)) (by (with_reducible repeat (first | refine xaG ?_ _ | refine xaJ ?_ | refine xaH ?_ _)); exact BK425.out) hb)
  have n2_ := Aside0.mk (xaY (g := gb426) (o := .cells #[.bool a1_0, .slice A1_1 l1_1.length c1_1, .int .i64 a1_2] 96 (0, 0)) (by (with_reducible repeat (first | refine xaG ?_ _ | refine xaJ ?_ | refine xaH ?_ _)); exact BK426.out) hb)
  have n3_ := Aside0.mk (xaP (by repeat (first | (with_reducible first | exact HB.out | apply xaB | apply xaA | apply xaC | refine xaF ?_ GE425.out | refine xaF ?_ GE426.out) | exact HB.out)) hb)
  clear BK425 BK426 HB;have HO432 := n0_;have BK425 := n1_;have BK426 := n2_;have HB := n3_;clear n0_ n1_ n2_ n3_;(try clear hb);(try clear hb2);(try clear hk);(try clear hi);(try clear ho0)
  obtain ⟨Ao24, co24, eo24⟩ := Kd.xcY HO432.out
  (first | subst eo24 | (injection eo24 with f1_ f2_ f3_; have f4_ := f1_.symm; have f5_ := f3_.symm; clear f1_ f2_ f3_; subst f4_; subst f5_))
  refine hK.out _ _ ⟨(xaE BK425.out 0).trans rfl, (xaE BK425.out 1).trans rfl, (xaE BK425.out 2).trans rfl, (xaE BK426.out 0).trans rfl, (xaE BK426.out 1).trans rfl, (xaE BK426.out 2).trans rfl⟩ (fun hHeld => ?_)
  clear hK K
  refine norm_ (a' := ?_) ?_ ?_
  rotate_left
  ·
   show Act.put _ (some 23) _ = _
   simp only [Act.put, List.setIfInBounds_toArray, List.set_cons_zero, List.set_cons_succ, i64_w, i32_w]
   rfl
  refine one_ (i := 6) (N := some 26) #[true, true, true, true, true, true, true, false, false, false, false, false] rfl rfl (one_of HT_.out (by kernel_rfl)) (by decide) (fun K hK => ?_)
  refine goes_ Try.func101 (by kernel_rfl) rfl #[.slice Ao24 t430.length co24, .slice A1_1 l1_1.length c1_1] (by rfl) rfl rfl (by (try simp only [List.map_toArray, List.map_cons, List.map_nil]); first | done | rfl | (simp only [List.length_drop, List.length_take]; rfl)) ?_
  with_reducible refine (xaS.calls k _ _ t430 _ _ l1_1 t433 t434 _ ?side1 ?side2 ?side3 ?side4 A14.out).mono ?_
  (case side1 => repeat (first | exact (Kd.R_reads' HO432.out).2.2 | (with_reducible refine Kd.xbF ?_ _) | (with_reducible refine Kd.xbE ?_ _) | (with_reducible refine Kd.C_drew ?_)))
  (case side2 => exact (Kd.R_reads' HO432.out).2.1)
  (case side3 => repeat (first | exact (Kd.xbT HR1_1.out HB.out) | (with_reducible refine Kd.xbF ?_ _) | (with_reducible refine Kd.xbE ?_ _) | (with_reducible refine Kd.C_drew ?_)))
  (case side4 => exact HC1_1.out)
  rintro e w25 ⟨v435, v437, rfl, ho0, ho1, hb⟩
  refine ⟨_, rfl, ?_⟩
  have n0_ := Aside0.mk (Kd.R_mono (Kd.R_told (Kd.R_told (Kd.R_old (by (with_reducible repeat (first | apply Kd.xbZ | apply Kd.xbY | apply Kd.R_drew)); exact HO432.out) hb) (Kd.R_base ho0)) (Kd.R_base ho1)) (fun _ h_ => h_.1))
  have n1_ := Aside0.mk (Kd.xdR (Kd.R_new' ho0 (Kd.R_lt (by (with_reducible repeat (first | apply Kd.xbZ | apply Kd.xbY | apply Kd.R_drew)); exact HO432.out))) (xaR (by repeat (first | (with_reducible first | exact HB.out | apply xaB | apply xaA | apply xaC | refine xaF ?_ GE425.out | refine xaF ?_ GE426.out) | exact HB.out))))
  have n2_ := Aside0.mk (Kd.xdR (Kd.R_new' ho1 (Kd.R_lt (by (with_reducible repeat (first | apply Kd.xbZ | apply Kd.xbY | apply Kd.R_drew)); exact HO432.out))) (xaR (by repeat (first | (with_reducible first | exact HB.out | apply xaB | apply xaA | apply xaC | refine xaF ?_ GE425.out | refine xaF ?_ GE426.out) | exact HB.out))))
  have n3_ := Aside0.mk (xaY (g := gb425) (o := .cells #[.bool a0_0, .slice A0_1 l0_1.length c0_1, .int .i64 a0_2] 96 (0, 0)) (by (with_reducible repeat (first | refine xaG ?_ _ | refine xaJ ?_ | refine xaH ?_ _)); exact BK425.out) hb)
  have n4_ := Aside0.mk (xaY (g := gb426) (o := .cells #[.bool a1_0, .slice A1_1 l1_1.length c1_1, .int .i64 a1_2] 96 (0, 0)) (by (with_reducible repeat (first | refine xaG ?_ _ | refine xaJ ?_ | refine xaH ?_ _)); exact BK426.out) hb)
  have n5_ := Aside0.mk (xaP (by repeat (first | (with_reducible first | exact HB.out | apply xaB | apply xaA | apply xaC | refine xaF ?_ GE425.out | refine xaF ?_ GE426.out) | exact HB.out)) hb)
  clear HO432 BK425 BK426 HB;have HO432 := n0_;have HO436 := n1_;have HO438 := n2_;have BK425 := n3_;have BK426 := n4_;have HB := n5_;clear n0_ n1_ n2_ n3_ n4_ n5_;(try clear hb);(try clear hb2);(try clear hk);(try clear hi);(try clear ho0);(try clear ho1)
  refine hK.out _ _ ⟨(xaE BK425.out 0).trans rfl, (xaE BK425.out 1).trans rfl, (xaE BK425.out 2).trans rfl, (xaE BK426.out 0).trans rfl, (xaE BK426.out 1).trans rfl, (xaE BK426.out 2).trans rfl⟩ (fun hHeld => ?_)
  clear hK K
  refine norm_ (a' := ?_) ?_ ?_
  rotate_left
  ·
   show Act.put _ (some 26) _ = _
   simp only [Act.put, List.setIfInBounds_toArray, List.set_cons_zero, List.set_cons_succ, i64_w, i32_w]
   rfl
  refine pure_ (i := 7) (N := some 19) (v := ?_) (a' := ?_) #[true, true, true, true, true, true, true, true, false, false, false, false] rfl rfl (any_of HT_.out (by kernel_rfl)) (fun _ _ _ h => h) (Or.inl ⟨by rfl, ?_⟩) ?_ ?_
  rotate_left
  ·
   intro w'
   go_simp
   with_reducible rfl
  rotate_left
  ·
   simp only [Act.put, List.setIfInBounds_toArray, List.set_cons_zero, List.set_cons_succ, i64_w, i32_w]
   rfl
  refine pure_ (i := 8) (N := some 27) (v := ?_) (a' := ?_) #[true, true, true, true, true, true, true, true, true, false, false, false] rfl rfl (any_of HT_.out (by kernel_rfl)) (fun _ _ _ h => h) (Or.inl ⟨by rfl, ?_⟩) ?_ ?_
  rotate_left
  ·
   intro w'
   go_simp
   with_reducible rfl
  rotate_left
  ·
   simp only [Act.put, List.setIfInBounds_toArray, List.set_cons_zero, List.set_cons_succ, i64_w, i32_w]
   rfl
  refine pure_ (i := 9) (N := some 28) (v := ?_) (a' := ?_) #[true, true, true, true, true, true, true, true, true, true, false, false] rfl rfl (any_of HT_.out (by kernel_rfl)) (fun _ _ _ h => h) (Or.inl ⟨by rfl, ?_⟩) ?_ ?_
  rotate_left
  ·
   intro w'
   go_simp
   with_reducible rfl
  rotate_left
  ·
   simp only [Act.put, List.setIfInBounds_toArray, List.set_cons_zero, List.set_cons_succ, i64_w, i32_w]
   rfl
  refine pure_ (i := 10) (N := some 6) (v := ?_) (a' := ?_) #[true, true, true, true, true, true, true, true, true, true, true, false] rfl rfl (any_of HT_.out (by kernel_rfl)) (fun _ _ _ h => h) (Or.inl ⟨by rfl, ?_⟩) ?_ ?_
  rotate_left
  ·
   intro w'
   go_simp
   with_reducible rfl
  rotate_left
  ·
   simp only [Act.put, List.setIfInBounds_toArray, List.set_cons_zero, List.set_cons_succ, i64_w, i32_w]
   rfl
  refine pure_ (i := 11) (N := some 7) (v := ?_) (a' := ?_) #[true, true, true, true, true, true, true, true, true, true, true, true] rfl rfl (any_of HT_.out (by kernel_rfl)) (fun _ _ _ h => h) (Or.inl ⟨by rfl, ?_⟩) ?_ ?_
  rotate_left
  ·
   intro w'
   go_simp
   with_reducible rfl
  rotate_left
  ·
   simp only [Act.put, List.setIfInBounds_toArray, List.set_cons_zero, List.set_cons_succ, i64_w, i32_w]
   rfl
  refine done_ (xgB HT_.out (by kernel_rfl)) ?_
  have hcz26_0 : w25.cell? ⟨gb425, 0, none⟩ = some (.bool a0_0) := (xaE BK425.out 0).trans rfl
  have hcz26_1 : w25.cell? ⟨gb425, 1, none⟩ = some (.slice A0_1 l0_1.length c0_1) := (xaE BK425.out 1).trans rfl
  have hcz26_2 : w25.cell? ⟨gb425, 2, none⟩ = some (.int .i64 a0_2) := (xaE BK425.out 2).trans rfl
  have hfz26_0 := xaD BK425.out 0;have hfz26_1 := xaD BK425.out 1;have hfz26_2 := xaD BK425.out 2
  have hcz27_0 : w25.cell? ⟨gb426, 0, none⟩ = some (.bool a1_0) := (xaE BK426.out 0).trans rfl
  have hcz27_1 : w25.cell? ⟨gb426, 1, none⟩ = some (.slice A1_1 l1_1.length c1_1) := (xaE BK426.out 1).trans rfl
  have hcz27_2 : w25.cell? ⟨gb426, 2, none⟩ = some (.int .i64 a1_2) := (xaE BK426.out 2).trans rfl
  have hfz27_0 := xaD BK426.out 0;have hfz27_1 := xaD BK426.out 1;have hfz27_2 := xaD BK426.out 2
  obtain ⟨Ao28, co28, eo28⟩ := Kd.xcY HO436.out
  subst eo28
  obtain ⟨Ao29, co29, eo29⟩ := Kd.xcY HO438.out
  subst eo29
  have hdec_ : (decide (0 < t434.length)) = (decide ((t434.length : Int) > 0)) := by rw [decide_eq_decide]; omega
  try go_wp2_with (first | ((with_reducible refine xaQ (f := 103) rfl ?_); refine goesL_ (some 43) rfl rfl Try.func103 (by kernel_rfl) rfl #[.agg #[.bool a0_0, .slice Ao28 t433.length co28, .int .i64 (wrap64 ((wrap64 (a0_2 - (ji12))) - a1_2))], .bool (decide ((t434.length : Int) > 0))] rfl (by (try simp only [List.map_toArray, List.map_cons, List.map_nil]); first | done | (simp only [hdec_]; done) | (simp only [hdec_]; rfl) | (simp only [hji12]; rfl) | rfl | (simp only [List.length_drop, List.length_take]; rfl)) ?_; (with_reducible refine (xaV.calls k a0_0 _ _ t433 (wrap64 ((wrap64 (a0_2 - (ji12))) - a1_2)) (decide ((t434.length : Int) > 0)) t439 _ ?side1 ?side2 A15.out).mono ?_); (case side1 => repeat (first | exact (Kd.R_reads' HO436.out).2.2 | (with_reducible refine Kd.xbF ?_ _) | (with_reducible refine Kd.xbE ?_ _) | (with_reducible refine Kd.C_drew ?_))); (case side2 => exact (Kd.R_reads' HO436.out).2.1); rintro e w30 ⟨rfl, hb⟩; refine ⟨_, rfl, ?_⟩; have n0_ := Aside0.mk (Kd.xgJ (by (with_reducible repeat (first | apply Kd.xbZ | apply Kd.xbY | apply Kd.R_drew)); exact HO432.out) hb); have n1_ := Aside0.mk (Kd.xgJ (by (with_reducible repeat (first | apply Kd.xbZ | apply Kd.xbY | apply Kd.R_drew)); exact HO436.out) hb); have n2_ := Aside0.mk (Kd.xgJ (by (with_reducible repeat (first | apply Kd.xbZ | apply Kd.xbY | apply Kd.R_drew)); exact HO438.out) hb); have n3_ := Aside0.mk (xaY (g := gb425) (o := .cells #[.bool a0_0, .slice A0_1 l0_1.length c0_1, .int .i64 a0_2] 96 (0, 0)) (by (with_reducible repeat (first | refine xaG ?_ _ | refine xaJ ?_ | refine xaH ?_ _)); exact BK425.out) hb); have n4_ := Aside0.mk (xaY (g := gb426) (o := .cells #[.bool a1_0, .slice A1_1 l1_1.length c1_1, .int .i64 a1_2] 96 (0, 0)) (by (with_reducible repeat (first | refine xaG ?_ _ | refine xaJ ?_ | refine xaH ?_ _)); exact BK426.out) hb); have n5_ := Aside0.mk (xaP (by repeat (first | (with_reducible first | exact HB.out | apply xaB | apply xaA | apply xaC | refine xaF ?_ GE425.out | refine xaF ?_ GE426.out) | exact HB.out)) hb); clear HO432; clear HO436; clear HO438; clear BK425; clear BK426; clear HB; have HO432 := n0_; have HO436 := n1_; have HO438 := n2_; have BK425 := n3_; have BK426 := n4_; have HB := n5_; clear n0_ n1_ n2_ n3_ n4_ n5_; (try clear hb); (try clear hb2); (try clear hk); (try clear hi)))
  go_ret
  exact ⟨by first | rfl | (simp [xaL, xaK] <;> rfl) | (simp only [← hji12]; first | rfl | (simp [xaL, xaK] <;> rfl)) | (simp [*, xaL, xaK] <;> rfl), by repeat (first | (with_reducible first | exact HB.out | apply xaB | apply xaA | apply xaC | refine xaF ?_ GE425.out | refine xaF ?_ GE426.out) | exact HB.out)⟩
end Go.Proofs.Ytoncignjcgjhhaa.Q
namespace Go.Proofs.Ytoncignjcgjhhaa.DG
open Go.RowKit Go.Proofs.YtoncignjcgjhhaaW.PrintWords Go.Proofs.YtoncignjcgjhhaaW.PrintLast Go.Proofs.YtoncignjcgjhhaaW.PrintMore
open Go.Proofs.Ytoncignjcgjhhaa.Q
theorem w64 {x : Int} (h0 : -9223372036854775808 ≤ x) (h1 : x ≤ 9223372036854775807) : wrap64 x = x := by unfold wrap64; omega
theorem u64 {x : Int} (h0 : 0 ≤ x) (h1 : x ≤ 18446744073709551615) : IntKind.u64.wrap x = x := IntWalk.u64_in x ⟨h0, h1⟩
theorem td {a b : Int} (h : 0 ≤ a) : Int.tdiv a b = a / b := Int.tdiv_eq_ediv_of_nonneg h
theorem tm {a b : Int} (h : 0 ≤ a) : Int.tmod a b = a % b := Int.tmod_eq_emod_of_nonneg h
def tlen (l : List Int) : Nat → Nat
  | 0 => 0
  | n + 1 => if l.getD n 0 = 0 then tlen l n else n + 1
def tr (l : List Int) : List Int := l.take (tlen l l.length)
theorem tlen_zero (l : List Int) : ∀ n i, tlen l n ≤ i → i < n → l.getD i 0 = 0
 | 0, i, _, h => absurd h (Nat.not_lt_zero _)
 | n + 1, i, h0, h1 => by
  unfold tlen at h0
  split at h0
  ·
   rename_i hz
   by_cases e : i = n
   ·
    subst e; exact hz
   ·
    exact tlen_zero l n i h0 (by omega)
  ·
   omega
theorem tr_getD (l : List Int) (i : Nat) : (tr l).getD i 0 = l.getD i 0 := by
 unfold tr
 by_cases h : i < tlen l l.length
 ·
  simp only [List.getD_eq_getElem?_getD, List.getElem?_take, if_pos h]
 ·
  have e1 : (l.take (tlen l l.length)).getD i 0 = 0 := by
   simp only [List.getD_eq_getElem?_getD, List.getElem?_take, if_neg h, Option.getD_none]
  rw [e1]
  by_cases h2 : i < l.length
  ·
   exact (tlen_zero l l.length i (by omega) h2).symm
  ·
   simp only [List.getD_eq_getElem?_getD, List.getElem?_eq_none (Nat.le_of_not_lt h2), Option.getD_none]
theorem trim_l0 (l : List Int) (hl : l.length ≤ 100) : ∀ n : Nat, n ≤ l.length → Ev (fun k => xbQ.l0 k l n) (l.take (tlen l n))
 | 0, _ => by
  refine Ev.step (f := fun _ => some (l.take (tlen l 0))) (fun k => ?_) (Ev.now _)
  rw [xbQ.l0, if_neg (by omega), if_pos (by omega), if_pos (by omega)]
  rfl
 | n + 1, h => by
  have e : wrap64 (((n + 1 : Nat) : Int) - 1) = (n : Int) := by rw [w64 (by omega) (by omega)]; omega
  have er : rd l (n : Int) = l.getD n 0 := by unfold rd; rw [Int.toNat_natCast]
  have hn1 : ((n + 1 : Nat) : Int) > 0 := by omega
  have h0 : (0 : Int) ≤ (n : Int) := by omega
  have h1 : (n : Int) < (l.length : Int) := by omega
  by_cases hz : l.getD n 0 = 0
  ·
   have et : tlen l (n + 1) = tlen l n := by rw [tlen, if_pos hz]
   rw [et]
   refine Ev.step (fun k => ?_) (trim_l0 l hl n (by omega))
   rw [xbQ.l0, if_pos hn1, e, if_pos h0, if_pos h1, er, if_pos hz]
  ·
   have et : tlen l (n + 1) = n + 1 := by rw [tlen, if_neg hz]
   rw [et]
   refine Ev.step (f := fun _ => some (l.take (n + 1))) (fun k => ?_) (Ev.now _)
   have h2 : (0 : Int) ≤ ((n + 1 : Nat) : Int) := by omega
   have h3 : ((n + 1 : Nat) : Int) ≤ (l.length : Int) := by omega
   rw [xbQ.l0, if_pos hn1, e, if_pos h0, if_pos h1, er, if_neg hz, if_pos h2, if_pos h3, Int.toNat_natCast]
theorem trim (l : List Int) (hl : l.length ≤ 100) : Ev (fun k => xbQ.f k l) (tr l) := trim_l0 l hl l.length (Nat.le_refl _)
def dig (n : Nat) : List Int := if n = 0 then [] else [(n : Int)]
theorem tr1 (n : Nat) : tr [(n : Int)] = dig n := by
 unfold tr dig
 by_cases h : n = 0
 ·
  subst h; rfl
 ·
  rw [if_neg h]
  simp [tlen, h]
theorem tr2 (n : Nat) : tr [(n : Int), 0] = dig n := by
 unfold tr dig
 by_cases h : n = 0
 ·
  subst h; rfl
 ·
  rw [if_neg h]
  simp [tlen, h]
theorem digit (l : List Int) (i : Nat) : xaM.f l i = some (l.getD i 0) := by
 unfold xaM.f
 rw [if_neg (by omega)]
 by_cases h : (i : Int) ≥ (l.length : Int)
 ·
  rw [if_pos h]
  have : l.length ≤ i := by omega
  simp only [List.getD_eq_getElem?_getD, List.getElem?_eq_none this, Option.getD_none]
 ·
  rw [if_neg h, if_pos (by omega), if_pos (by omega)]
  unfold rd
  rw [Int.toNat_natCast]
theorem dig_0 (n : Nat) : (dig n).getD 0 0 = (n : Int) := by
 unfold dig
 by_cases h : n = 0
 ·
  rw [if_pos h, h]; rfl
 ·
  rw [if_neg h]; rfl
theorem dig_1 (n : Nat) (i : Nat) : (dig n).getD (i + 1) 0 = 0 := by
 unfold dig
 by_cases h : n = 0
 ·
  rw [if_pos h]; rfl
 ·
  rw [if_neg h]; rfl
def bits (n : Nat) : Nat := if n = 0 then 0 else n.log2 + 1
theorem bits_half {n : Nat} (h : n ≠ 0) : bits n = bits (n / 2) + 1 := by
 unfold bits
 rw [if_neg h]
 by_cases h2 : 2 ≤ n
 ·
  rw [Nat.log2_def, if_pos h2, if_neg (show ¬ n / 2 = 0 by omega)]
 ·
  rw [Nat.log2_def, if_neg h2, if_pos (show n / 2 = 0 by omega)]
theorem bits_pos {n : Nat} (h : n ≠ 0) : 1 ≤ bits n := by unfold bits; rw [if_neg h]; omega
theorem Len_l0 (n : Nat) : ∀ x : Int, 0 ≤ x → x + bits n ≤ 1000000 → n < 18446744073709551616 → Ev (fun k => xbC.l0 k x n) (x + bits n) := by
 induction n using Nat.strongRecOn with
 | ind n ih =>
  intro x h0 h1 hn
  by_cases h : n = 0
  ·
   subst h
   refine Ev.step (f := fun _ => some (x + bits 0)) (fun k => ?_) (Ev.now _)
   rw [xbC.l0, if_neg (by omega)]
   show some x = some (x + 0)
   rw [Int.add_zero]
  ·
   have hb := bits_half h
   have r := ih (n / 2) (by omega) (x + 1) (by omega) (by omega) (by omega)
   have e : x + 1 + (bits (n / 2) : Int) = x + bits n := by rw [hb]; omega
   rw [e] at r
   refine Ev.step (fun k => ?_) r
   have hp := bits_pos h
   have e1 : wrap64 (x + 1) = x + 1 := w64 (by omega) (by omega)
   have e2 : IntKind.u64.wrap (Int.tdiv (n : Int) 2) = ((n / 2 : Nat) : Int) := by rw [td (by omega), u64 (by omega) (by omega)]; omega
   have g : (n : Int) > 0 := by omega
   rw [xbC.l0, if_pos g, e1, e2]
theorem bits_le {n k : Nat} (h : n < 2 ^ k) : bits n ≤ k := by
 unfold bits
 by_cases h0 : n = 0
 ·
  rw [if_pos h0]; omega
 ·
  rw [if_neg h0]
  have := (Nat.log2_lt h0).2 h
  omega
theorem Len_1 {n : Nat} (h : n ≠ 0) (h1 : n < 4294967296) : Ev (fun k => xbC.f k [(n : Int)]) (bits n) := by
 have hb := bits_le (n := n) (k := 32) (by omega)
 have r := Len_l0 n 0 (by omega) (by omega) (by omega)
 rw [Int.zero_add] at r
 refine Ev.congr (fun k => ?_) r
 unfold xbC.f
 rw [show (([(n : Int)] : List Int).length : Int) = 1 from rfl, if_neg (by decide), show wrap64 ((1 : Int) - 1) = 0 by decide +kernel, if_pos (by decide), if_pos (by decide), show wrap64 ((32 : Int) * 0) = 0 by decide +kernel]
 rfl
theorem Len_3 (a b : Int) {c : Nat} (h1 : c < 4294967296) : Ev (fun k => xbC.f k [a, b, (c : Int)]) (64 + bits c) := by
 have hb := bits_le (n := c) (k := 32) (by omega)
 have r := Len_l0 c 64 (by omega) (by omega) (by omega)
 refine Ev.congr (fun k => ?_) r
 unfold xbC.f
 rw [show (([a, b, (c : Int)] : List Int).length : Int) = 3 from rfl, if_neg (by decide), show wrap64 ((3 : Int) - 1) = 2 by decide +kernel, if_pos (by decide), if_pos (by decide), show wrap64 ((32 : Int) * 2) = 64 by decide +kernel]
 rfl
def d3 (V : Nat) : List Int := [((V % 4294967296 : Nat) : Int), ((V / 4294967296 % 4294967296 : Nat) : Int), ((V / 18446744073709551616 % 4294967296 : Nat) : Int)]
theorem tr_d3 {V : Nat} (h : 18446744073709551616 ≤ V) (h2 : V < 79228162514264337593543950336) : tr (d3 V) = d3 V := by
 have e : ¬ V / 18446744073709551616 % 4294967296 = 0 := by omega
 have e2 : ¬ ((V / 18446744073709551616 % 4294967296 : Nat) : Int) = 0 := by omega
 show (d3 V).take (tlen (d3 V) 3) = d3 V
 have e3 : tlen (d3 V) 3 = 3 := by rw [tlen, if_neg (by exact e2)]
 rw [e3]
 rfl
theorem pow_s {s : Nat} (h : s ≤ 31) : 1 ≤ 2 ^ s ∧ 2 ^ s ≤ 2147483648 := by
 have h1 : (2 : Nat) ^ s ≤ 2 ^ 31 := Nat.pow_le_pow_right (by decide) h
 have h2 := Nat.two_pow_pos s
 have h3 : (2 : Nat) ^ 31 = 2147483648 := by decide
 omega
theorem shl_nat {x s : Nat} (hx : x < 4294967296) (hs : s ≤ 31) : shl .u64 (x : Int) (s : Int) = ((x * 2 ^ s : Nat) : Int) ∧ x * 2 ^ s < 18446744073709551616 := by
 obtain ⟨a, b⟩ := pow_s hs
 have hm : x * 2 ^ s ≤ 4294967295 * 2147483648 := Nat.mul_le_mul (by omega) b
 have hlt : x * 2 ^ s < 18446744073709551616 := by omega
 refine ⟨?_, hlt⟩
 unfold shl
 rw [Int.toNat_natCast, show min s (IntKind.bits .u64) = s from Nat.min_eq_left (by show s ≤ 64; omega)]
 have e : ((x : Int) * 2 ^ s) = ((x * 2 ^ s : Nat) : Int) := by push_cast; rfl
 rw [e, u64 (by omega) (by omega)]
end Go.Proofs.Ytoncignjcgjhhaa.DG
namespace Go.Proofs.Ytoncignjcgjhhaa.DG
open Go.RowKit Go.Proofs.YtoncignjcgjhhaaW.PrintWords Go.Proofs.YtoncignjcgjhhaaW.PrintLast Go.Proofs.YtoncignjcgjhhaaW.PrintMore
open Go.Proofs.Ytoncignjcgjhhaa.Q
theorem idx_1 {n : Nat} (hn : n < 96) : Int.tmod (n : Int) 32 = ((n % 32 : Nat) : Int) ∧ wrap64 (Int.tdiv (n : Int) 32) = ((n / 32 : Nat) : Int) := by
 constructor
 ·
  rw [tm (by omega)]; omega
 ·
  rw [td (by omega), w64 (by omega) (by omega)]; omega
theorem idx_2 {m : Nat} (hm : m ≤ 2) : wrap64 (0 + (m : Int)) = (m : Int) ∧ wrap64 ((m : Int) + 1) = ((m + 1 : Nat) : Int) := by
 constructor
 ·
  rw [Int.zero_add]; exact w64 (by omega) (by omega)
 ·
  rw [w64 (by omega) (by omega)]; omega
theorem ShiftUp_l0 {p n : Nat} (hp : p < 4294967296) (hn : n < 96) {y : Nat} (hy : y = p * 2 ^ (n % 32)) :
  Ev (fun k => xbA.l0 k [(p : Int)] n (List.replicate (n / 32 + 2) 0) 0) (tr (((List.replicate (n / 32 + 2) (0 : Int)).set (n / 32) ((y % 4294967296 : Nat) : Int)).set (n / 32 + 1) ((y / 4294967296 : Nat) : Int))) := by
 obtain ⟨m, hm⟩ : ∃ m, m = n / 32 := ⟨_, rfl⟩
 have hm2 : m ≤ 2 := by omega
 have hs : n % 32 ≤ 31 := by omega
 obtain ⟨e1, h1⟩ := shl_nat hp hs
 rw [← hy] at e1 h1
 rw [← hm]
 obtain ⟨X, hX⟩ : ∃ X, X = List.replicate (m + 2) (0 : Int) := ⟨_, rfl⟩
 have hXl : X.length = m + 2 := by rw [hX, List.length_replicate]
 have hX0 : rd X (m : Int) = 0 := by
  unfold rd
  rw [hX, Int.toNat_natCast, List.getD_eq_getElem?_getD, List.getElem?_replicate]
  split <;> rfl
 rw [← hX]
 have hlen : ((X.set m ((y % 4294967296 : Nat) : Int)).set (m + 1) ((y / 4294967296 : Nat) : Int)).length ≤ 100 := by rw [List.length_set, List.length_set, hXl]; omega
 have ht := trim _ hlen
 have hend : Ev (fun k => xbA.l0 k [(p : Int)] n ((X.set m ((y % 4294967296 : Nat) : Int)).set (m + 1) ((y / 4294967296 : Nat) : Int)) 1) (tr ((X.set m ((y % 4294967296 : Nat) : Int)).set (m + 1) ((y / 4294967296 : Nat) : Int))) := by
  refine Ev.step (fun k => ?_) (Ev.bind ht (Ev.now _))
  rw [xbA.l0, if_neg (show ¬ (1 : Int) < (([(p : Int)] : List Int).length : Int) by show ¬ (1 : Int) < 1; decide)]
 refine Ev.step (fun k => ?_) hend
 have f5 : rd [(p : Int)] 0 = (p : Int) := rfl
 have g1 : (0 : Int) < (([(p : Int)] : List Int).length : Int) := by show (0 : Int) < 1; decide
 have g2 : (0 : Int) ≤ ((n % 32 : Nat) : Int) := by omega
 have g3 : (0 : Int) ≤ (m : Int) := by omega
 have g4 : (m : Int) < (X.length : Int) := by rw [hXl]; omega
 have g5 : (0 : Int) ≤ ((m + 1 : Nat) : Int) := by omega
 have g6 : ((m + 1 : Nat) : Int) < (X.length : Int) := by rw [hXl]; omega
 have v1 : IntKind.u64.wrap (0 + Int.tmod (y : Int) 4294967296) = ((y % 4294967296 : Nat) : Int) := by rw [Int.zero_add, tm (by omega), u64 (by omega) (by omega)]; omega
 have v2 : IntKind.u64.wrap (Int.tdiv (y : Int) 4294967296) = ((y / 4294967296 : Nat) : Int) := by rw [td (by omega), u64 (by omega) (by omega)]; omega
 obtain ⟨f1, f2⟩ := idx_1 hn
 rw [← hm] at f2
 obtain ⟨f3, f4⟩ := idx_2 hm2
 rw [xbA.l0, if_pos g1, if_pos (Int.le_refl 0), f1, f2, f3, f4, if_pos g2, if_pos g3, if_pos g4, if_pos g5, if_pos g6, hX0, f5, e1, v1, v2, Int.toNat_natCast, Int.toNat_natCast, show wrap64 ((0 : Int) + 1) = 1 by decide +kernel]
theorem ShiftUp_f {p n : Nat} (hn : n < 96) : ∀ k, xbA.f k [(p : Int)] n = xbA.l0 k [(p : Int)] n (List.replicate (n / 32 + 2) 0) 0 := by
 intro k
 unfold xbA.f
 have f2 : wrap64 (Int.tdiv (n : Int) 32) = ((n / 32 : Nat) : Int) := by rw [td (by omega), w64 (by omega) (by omega)]; omega
 have f3 : wrap64 (wrap64 (1 + ((n / 32 : Nat) : Int)) + 1) = ((n / 32 + 2 : Nat) : Int) := by rw [w64 (x := 1 + ((n / 32 : Nat) : Int)) (by omega) (by omega), w64 (by omega) (by omega)]; omega
 rw [show (([(p : Int)] : List Int).length : Int) = 1 from rfl, if_neg (by decide), f2, f3, if_pos (by omega), Int.toNat_natCast, if_pos (by omega)]
theorem ShiftUp_dig {r : Nat} (h : r < 2147483648) : Ev (fun k => xbA.f k (dig r) 1) (dig (2 * r)) := by
 by_cases h0 : r = 0
 ·
  subst h0
  exact Ev.congr (f := fun _ => some ([] : List Int)) (fun k => by unfold xbA.f; rfl) (Ev.now _)
 ·
  have e : dig r = [(r : Int)] := by unfold dig; rw [if_neg h0]
  rw [e]
  refine Ev.congr (fun k => ShiftUp_f (n := 1) (by decide) k) ?_
  have hl := ShiftUp_l0 (p := r) (n := 1) (by omega) (by decide) (y := 2 * r) (by rw [show (1 : Nat) % 32 = 1 by decide]; omega)
  have e2 : ((((List.replicate (1 / 32 + 2) (0 : Int)).set (1 / 32) ((2 * r % 4294967296 : Nat) : Int)).set (1 / 32 + 1) ((2 * r / 4294967296 : Nat) : Int))) = [((2 * r : Nat) : Int), 0] := by
   rw [show 2 * r % 4294967296 = 2 * r by omega, show 2 * r / 4294967296 = 0 by omega]
   rfl
  rw [e2, tr2] at hl
  exact hl
theorem ShiftUp_d3 {p n : Nat} (hp : p < 4294967296) (h0 : 32 ≤ n) (hn : n < 96) (h1 : 18446744073709551616 ≤ p * 2 ^ n) (h2 : p * 2 ^ n < 79228162514264337593543950336) :
  Ev (fun k => xbA.f k [(p : Int)] n) (d3 (p * 2 ^ n)) := by
 refine Ev.congr (fun k => ShiftUp_f hn k) ?_
 obtain ⟨y, hy⟩ : ∃ y, y = p * 2 ^ (n % 32) := ⟨_, rfl⟩
 have hl := ShiftUp_l0 hp hn hy
 have hs : n % 32 ≤ 31 := by omega
 have hlt := (shl_nat hp hs).2
 rw [← hy] at hlt
 have hc : n / 32 = 1 ∨ n / 32 = 2 := by omega
 rcases hc with hc | hc
 ·
  have e : p * 2 ^ n = y * 4294967296 := by
   rw [hy, Nat.mul_assoc, show (4294967296 : Nat) = 2 ^ 32 by decide, ← Nat.pow_add]
   congr 2
   omega
  rw [e] at h1 h2 ⊢
  rw [hc] at hl
  have e2 : ((((List.replicate (1 + 2) (0 : Int)).set 1 ((y % 4294967296 : Nat) : Int)).set (1 + 1) ((y / 4294967296 : Nat) : Int))) = d3 (y * 4294967296) := by
   unfold d3
   rw [show y * 4294967296 % 4294967296 = 0 by omega, show y * 4294967296 / 4294967296 % 4294967296 = y % 4294967296 by omega, show y * 4294967296 / 18446744073709551616 % 4294967296 = y / 4294967296 by omega]
   rfl
  rw [e2, tr_d3 h1 h2] at hl
  exact Ev.congr (fun k => by rw [hc]) hl
 ·
  have e : p * 2 ^ n = y * 18446744073709551616 := by
   rw [hy, Nat.mul_assoc, show (18446744073709551616 : Nat) = 2 ^ 64 by decide, ← Nat.pow_add]
   congr 2
   omega
  rw [e] at h1 h2 ⊢
  rw [hc] at hl
  have e2 : ((((List.replicate (2 + 2) (0 : Int)).set 2 ((y % 4294967296 : Nat) : Int)).set (2 + 1) ((y / 4294967296 : Nat) : Int))) = [0, 0, (y : Int), 0] := by
   rw [show y % 4294967296 = y by omega, show y / 4294967296 = 0 by omega]
   rfl
  have e3 : tr [0, 0, (y : Int), 0] = d3 (y * 18446744073709551616) := by
   have hy0 : ¬ (y : Int) = 0 := by omega
   show ([0, 0, (y : Int), 0] : List Int).take (tlen [0, 0, (y : Int), 0] 4) = _
   have e4 : tlen [0, 0, (y : Int), 0] 4 = 3 := by
    rw [tlen, if_pos (by rfl), tlen, if_neg (by exact hy0)]
   rw [e4]
   unfold d3
   rw [show y * 18446744073709551616 % 4294967296 = 0 by omega, show y * 18446744073709551616 / 4294967296 % 4294967296 = 0 by omega, show y * 18446744073709551616 / 18446744073709551616 % 4294967296 = y by omega]
   rfl
  rw [e2, e3] at hl
  exact Ev.congr (fun k => by rw [hc]) hl
theorem Add_one {r : Nat} (h : r + 1 < 4294967296) : Ev (fun k => xbH.f k (dig r) [1]) (dig (r + 1)) := by
 have hlen : ([((r + 1 : Nat) : Int), 0] : List Int).length ≤ 100 := by show 2 ≤ 100; decide
 have ht := trim _ hlen
 rw [tr2] at ht
 have d0 : xaM.f (dig r) 0 = some (r : Int) := by rw [show (0 : Int) = ((0 : Nat) : Int) from rfl, digit, dig_0]
 have d1 : xaM.f (dig r) 1 = some 0 := by rw [show (1 : Int) = ((1 : Nat) : Int) from rfl, digit, dig_1]
 have b0 : xaM.f [1] 0 = some 1 := by rw [show (0 : Int) = ((0 : Nat) : Int) from rfl, digit]; rfl
 have b1 : xaM.f [1] 1 = some 0 := by rw [show (1 : Int) = ((1 : Nat) : Int) from rfl, digit]; rfl
 have l2 : Ev (fun k => xbH.l0 k (dig r) [1] 2 [((r + 1 : Nat) : Int), 0] 0 2) (dig (r + 1)) := by
  refine Ev.step (fun k => ?_) (Ev.bind ht (Ev.now _))
  rw [xbH.l0, if_neg (by decide)]
 have l1 : Ev (fun k => xbH.l0 k (dig r) [1] 2 [((r + 1 : Nat) : Int), 0] 0 1) (dig (r + 1)) := by
  refine Ev.step (fun k => ?_) l2
  rw [xbH.l0, if_pos (by decide), d1, Option.bind_some, b1, Option.bind_some, if_pos (by decide), if_pos (by show (1 : Int) < 2; decide),
   show IntKind.u64.wrap (IntKind.u64.wrap ((0 : Int) + 0) + 0) = 0 by decide +kernel, show Int.tmod 0 4294967296 = 0 by decide, show IntKind.u64.wrap (Int.tdiv 0 4294967296) = 0 by decide +kernel, show wrap64 ((1 : Int) + 1) = 2 by decide +kernel]
  rfl
 have l0 : Ev (fun k => xbH.l0 k (dig r) [1] 2 [0, 0] 0 0) (dig (r + 1)) := by
  refine Ev.step (fun k => ?_) l1
  have e : IntKind.u64.wrap (IntKind.u64.wrap ((r : Int) + 1) + 0) = ((r + 1 : Nat) : Int) := by rw [u64 (x := (r : Int) + 1) (by omega) (by omega), u64 (by omega) (by omega)]; omega
  have e1 : Int.tmod ((r + 1 : Nat) : Int) 4294967296 = ((r + 1 : Nat) : Int) := by rw [tm (by omega)]; omega
  have e2 : IntKind.u64.wrap (Int.tdiv ((r + 1 : Nat) : Int) 4294967296) = 0 := by rw [td (by omega), u64 (by omega) (by omega)]; omega
  rw [xbH.l0, if_pos (by decide), d0, Option.bind_some, b0, Option.bind_some, if_pos (by decide), if_pos (by show (0 : Int) < 2; decide), e, e1, e2, show wrap64 ((0 : Int) + 1) = 1 by decide +kernel]
  rfl
 refine Ev.congr (fun k => ?_) l0
 unfold xbH.f
 have hm : mx ((dig r).length : Int) ((([1] : List Int).length : Nat) : Int) = 1 := by
  unfold dig
  by_cases h0 : r = 0
  ·
   rw [if_pos h0]; decide
  ·
   rw [if_neg h0]
   show mx (1 : Int) (1 : Int) = 1
   decide
 rw [hm, show wrap64 ((1 : Int) + 1) = 2 by decide +kernel, if_pos (by decide), if_pos (by decide)]
 rfl
theorem Cmp_dig {r q : Nat} (hq : 0 < q) : Ev (fun k => xbS.f k (dig r) [(q : Int)]) (if r < q then -1 else if r = q then 0 else 1) := by
 by_cases h0 : r = 0
 ·
  subst h0
  rw [if_pos hq]
  refine Ev.congr (f := fun _ => some (-1 : Int)) (fun k => ?_) (Ev.now _)
  unfold xbS.f
  rw [show ((dig 0).length : Int) = 0 from rfl, show (([(q : Int)] : List Int).length : Int) = 1 from rfl, if_neg (by decide), if_pos (by decide)]
 ·
  have e : dig r = [(r : Int)] := by unfold dig; rw [if_neg h0]
  rw [e]
  have lm : Ev (fun k => xbS.l0 k [(r : Int)] [(q : Int)] (-1)) 0 :=
   Ev.step (f := fun _ => some (0 : Int)) (fun k => by rw [xbS.l0, if_neg (by decide)]) (Ev.now _)
  have l0 : Ev (fun k => xbS.l0 k [(r : Int)] [(q : Int)] 0) (if r < q then -1 else if r = q then 0 else 1) := by
   have c : ∀ k, xbS.l0 (k + 1) [(r : Int)] [(q : Int)] 0 = (if (r : Int) < (q : Int) then some (-1) else if (r : Int) > (q : Int) then some 1 else xbS.l0 k [(r : Int)] [(q : Int)] (-1)) := by
    intro k
    rw [xbS.l0, if_pos (by decide), if_pos (by decide), if_pos (by show (0 : Int) < 1; decide), if_pos (by show (0 : Int) < 1; decide), show wrap64 ((0 : Int) - 1) = -1 by decide +kernel]
    rfl
   by_cases h1 : r < q
   ·
    rw [if_pos h1]
    exact Ev.step (f := fun _ => some (-1 : Int)) (fun k => by rw [c, if_pos (by omega)]) (Ev.now _)
   ·
    rw [if_neg h1]
    by_cases h2 : r = q
    ·
     rw [if_pos h2]
     exact Ev.step (fun k => by rw [c, if_neg (by omega), if_neg (by omega)]) lm
    ·
     rw [if_neg h2]
     exact Ev.step (f := fun _ => some (1 : Int)) (fun k => by rw [c, if_neg (by omega), if_pos (by omega)]) (Ev.now _)
  refine Ev.congr (fun k => ?_) l0
  unfold xbS.f
  rw [show (([(r : Int)] : List Int).length : Int) = 1 from rfl, show (([(q : Int)] : List Int).length : Int) = 1 from rfl, if_pos rfl, show wrap64 ((1 : Int) - 1) = 0 by decide +kernel]
theorem Sub_dig {r q : Nat} (hq : 0 < q) (h : q ≤ r) (hr : r < 4294967296) : Ev (fun k => xbR.f k (dig r) [(q : Int)]) (dig (r - q)) := by
 have e : dig r = [(r : Int)] := by unfold dig; rw [if_neg (by omega)]
 rw [e]
 have hlen : ([((r - q : Nat) : Int)] : List Int).length ≤ 100 := by show 1 ≤ 100; decide
 have ht := trim _ hlen
 rw [tr1] at ht
 have b0 : xaM.f [(q : Int)] 0 = some (q : Int) := by rw [show (0 : Int) = ((0 : Nat) : Int) from rfl, digit]; rfl
 have l1 : Ev (fun k => xbR.l0 k [(r : Int)] [(q : Int)] [((r - q : Nat) : Int)] 0 1) (dig (r - q)) := by
  refine Ev.step (fun k => ?_) (Ev.bind ht (Ev.now _))
  rw [xbR.l0, if_neg (by show ¬ (1 : Int) < 1; decide)]
 have l0 : Ev (fun k => xbR.l0 k [(r : Int)] [(q : Int)] [0] 0 0) (dig (r - q)) := by
  refine Ev.step (fun k => ?_) l1
  have e0 : IntKind.u64.wrap (IntKind.u64.wrap (IntKind.u64.wrap ((r : Int) + 4294967296) - (q : Int)) - 0) = (r : Int) + 4294967296 - (q : Int) := by
   rw [u64 (x := (r : Int) + 4294967296) (by omega) (by omega), u64 (x := (r : Int) + 4294967296 - (q : Int)) (by omega) (by omega), Int.sub_zero, u64 (by omega) (by omega)]
  have e1 : Int.tmod ((r : Int) + 4294967296 - (q : Int)) 4294967296 = ((r - q : Nat) : Int) := by rw [tm (by omega)]; omega
  have e2 : IntKind.u64.wrap (1 - IntKind.u64.wrap (Int.tdiv ((r : Int) + 4294967296 - (q : Int)) 4294967296)) = 0 := by
   rw [td (by omega), show ((r : Int) + 4294967296 - (q : Int)) / 4294967296 = 1 by omega]; decide +kernel
  rw [xbR.l0, if_pos (by show (0 : Int) < 1; decide), if_pos (by decide), b0, Option.bind_some, if_pos (by show (0 : Int) < 1; decide), show rd [(r : Int)] 0 = (r : Int) from rfl, e0, e1, e2, show wrap64 ((0 : Int) + 1) = 1 by decide +kernel]
  rfl
 refine Ev.congr (fun k => ?_) l0
 unfold xbR.f
 rw [show (([(r : Int)] : List Int).length : Int) = 1 from rfl, if_pos (by decide), if_pos (by decide)]
 rfl
end Go.Proofs.Ytoncignjcgjhhaa.DG
namespace Go.Proofs.Ytoncignjcgjhhaa.DG
open Go.RowKit Go.Proofs.YtoncignjcgjhhaaW.PrintWords Go.Proofs.YtoncignjcgjhhaaW.PrintLast Go.Proofs.YtoncignjcgjhhaaW.PrintMore
open Go.Proofs.Ytoncignjcgjhhaa.Q
theorem div_step {a q : Nat} (hq : 0 < q) : (q ≤ 2 * (a / 2 % q) + a % 2 → a / q = 2 * (a / 2 / q) + 1 ∧ a % q = 2 * (a / 2 % q) + a % 2 - q) ∧ (2 * (a / 2 % q) + a % 2 < q → a / q = 2 * (a / 2 / q) ∧ a % q = 2 * (a / 2 % q) + a % 2) := by
 have h := Nat.div_add_mod (a / 2) q
 have hm := Nat.mod_lt (a / 2) hq
 obtain ⟨W, hW⟩ : ∃ W, W = a / 2 / q := ⟨_, rfl⟩
 obtain ⟨r, hr⟩ : ∃ r, r = a / 2 % q := ⟨_, rfl⟩
 rw [← hW, ← hr] at h
 rw [← hr] at hm
 rw [← hW, ← hr]
 have e : q * (2 * W) = 2 * (q * W) := by rw [Nat.mul_left_comm]
 constructor
 ·
  intro hc
  have := (Nat.div_mod_unique (a := a) (d := 2 * W + 1) (c := 2 * r + a % 2 - q) hq).2 ⟨by rw [Nat.mul_add, e, Nat.mul_one]; omega, by omega⟩
  exact this
 ·
  intro hc
  exact (Nat.div_mod_unique (a := a) (d := 2 * W) (c := 2 * r + a % 2) hq).2 ⟨by rw [e]; omega, hc⟩
theorem shr_nat (x s : Nat) (hs : s ≤ 63) : shr .u64 (x : Int) (s : Int) = ((x / 2 ^ s : Nat) : Int) := by
 unfold shr
 rw [Int.toNat_natCast, show min s (IntKind.bits .u64) = s from Nat.min_eq_left (by show s ≤ 64; omega)]
 push_cast
 rfl
theorem mod_pow (x s d : Nat) (hs : s + d ≤ 32) : x % 4294967296 / 2 ^ s % 2 ^ d = x / 2 ^ s % 2 ^ d := by
  rw [show (4294967296 : Nat) = 2 ^ s * 2 ^ (32 - s) by rw [← Nat.pow_add, show s + (32 - s) = 32 by omega], Nat.mod_mul_right_div_self]
  exact Nat.mod_mod_of_dvd _ (Nat.pow_dvd_pow 2 (by omega))
theorem mod_pow64 (x s : Nat) (hs : s ≤ 32) : x % 18446744073709551616 / 2 ^ s % 4294967296 = x / 2 ^ s % 4294967296 := by
  rw [show (18446744073709551616 : Nat) = 2 ^ s * 2 ^ (64 - s) by rw [← Nat.pow_add, show s + (64 - s) = 64 by omega], Nat.mod_mul_right_div_self]
  exact Nat.mod_mod_of_dvd _ (by rw [show (4294967296 : Nat) = 2 ^ 32 by decide]; exact Nat.pow_dvd_pow 2 (by omega))
theorem split_pow (j : Nat) : 2 ^ j = 2 ^ (32 * (j / 32)) * 2 ^ (j % 32) := by rw [← Nat.pow_add]; congr 1; omega
theorem bit_at (A : Nat) {j : Nat} (hj : j < 96) : Int.tmod (shr .u64 (rd (d3 A) ((j / 32 : Nat) : Int)) ((j % 32 : Nat) : Int)) 2 = ((A / 2 ^ j % 2 : Nat) : Int) := by
 have hs : j % 32 ≤ 31 := by omega
 have key : ∀ X : Nat, Int.tmod (shr .u64 ((X % 4294967296 : Nat) : Int) ((j % 32 : Nat) : Int)) 2 = ((X / 2 ^ (j % 32) % 2 : Nat) : Int) := by
  intro X
  rw [shr_nat _ _ (by omega), tm (Int.natCast_nonneg _)]
  have h1 := mod_pow X (j % 32) 1 (by omega)
  rw [Nat.pow_one] at h1
  rw [← h1]
  rfl
 have hc : j / 32 = 0 ∨ j / 32 = 1 ∨ j / 32 = 2 := by omega
 have hsp := split_pow j
 rcases hc with hc | hc | hc
 ·
  rw [hc] at hsp ⊢
  rw [hsp, Nat.mul_zero, Nat.pow_zero, Nat.one_mul]
  exact key A
 ·
  rw [hc] at hsp ⊢
  rw [hsp, ← Nat.div_div_eq_div_mul]
  exact key (A / 4294967296)
 ·
  rw [hc] at hsp ⊢
  rw [hsp, ← Nat.div_div_eq_div_mul]
  exact key (A / 18446744073709551616)
theorem room {W s : Nat} (hs : s ≤ 31) : W * 2 ^ (s + 1) % 4294967296 + 2 ^ s < 4294967296 := by
 obtain ⟨p, hp⟩ : ∃ p, p = 2 ^ s := ⟨_, rfl⟩
 obtain ⟨t, ht⟩ : ∃ t, t = 2 ^ (31 - s) := ⟨_, rfl⟩
 have hp0 : 0 < p := by rw [hp]; exact Nat.two_pow_pos _
 have ht0 : 0 < t := by rw [ht]; exact Nat.two_pow_pos _
 have e : 4294967296 = t * (2 * p) := by
  rw [ht, hp, ← Nat.pow_succ', ← Nat.pow_add, show 31 - s + (s + 1) = 32 by omega]
 have e2 : 2 ^ (s + 1) = 2 * p := by rw [hp, Nat.pow_succ']
 rw [e2, ← hp]
 have hm : W * (2 * p) % 4294967296 = (W % t) * (2 * p) := by
  conv => lhs; rw [e]
  exact Nat.mul_mod_mul_right _ _ _
 rw [hm]
 have hl := Nat.mod_lt W ht0
 have : (W % t + 1) * (2 * p) ≤ t * (2 * p) := Nat.mul_le_mul_right _ hl
 rw [Nat.add_mul, Nat.one_mul] at this
 omega
theorem set_at {W j : Nat} (hj : j < 96) :
  (d3 (W * 2 ^ (j + 1))).set (j / 32) (IntKind.u64.wrap (rd (d3 (W * 2 ^ (j + 1))) ((j / 32 : Nat) : Int) + shl .u64 1 ((j % 32 : Nat) : Int))) = d3 (W * 2 ^ (j + 1) + 2 ^ j) := by
 have hs : j % 32 ≤ 31 := by omega
 have hr := room (W := W) hs
 obtain ⟨hsl, _⟩ := shl_nat (x := 1) (s := j % 32) (by decide) hs
 rw [show (((1 : Nat) : Int)) = 1 from rfl, Nat.one_mul] at hsl
 rw [hsl]
 obtain ⟨p, hp⟩ : ∃ p, p = 2 ^ (j % 32) := ⟨_, rfl⟩
 obtain ⟨U, hU⟩ : ∃ U, U = W * 2 ^ (j % 32 + 1) := ⟨_, rfl⟩
 rw [← hU, ← hp] at hr
 have e1 : W * 2 ^ (j + 1) = U * 2 ^ (32 * (j / 32)) := by
  rw [hU, Nat.mul_assoc, ← Nat.pow_add]
  congr 2
  omega
 have e2 : 2 ^ j = p * 2 ^ (32 * (j / 32)) := by rw [hp, ← Nat.pow_add]; congr 1; omega
 have hc : j / 32 = 0 ∨ j / 32 = 1 ∨ j / 32 = 2 := by omega
 rw [e1, e2, ← Nat.add_mul, ← hp]
 have hv : IntKind.u64.wrap (((U % 4294967296 : Nat) : Int) + (p : Int)) = (((U + p) % 4294967296 : Nat) : Int) := by rw [u64 (by omega) (by omega)]; omega
 rcases hc with hc | hc | hc
 ·
  rw [hc, Nat.mul_zero, Nat.pow_zero, Nat.mul_one, Nat.mul_one]
  show [IntKind.u64.wrap (((U % 4294967296 : Nat) : Int) + (p : Int)), _, _] = _
  rw [hv]
  unfold d3
  rw [show (U + p) / 4294967296 = U / 4294967296 by omega, show (U + p) / 18446744073709551616 = U / 18446744073709551616 by omega]
 ·
  rw [hc, show (2 : Nat) ^ (32 * 1) = 4294967296 by decide]
  unfold d3
  rw [show U * 4294967296 / 4294967296 = U by omega, show (U + p) * 4294967296 / 4294967296 = U + p by omega, show U * 4294967296 % 4294967296 = 0 by omega, show (U + p) * 4294967296 % 4294967296 = 0 by omega,
   show U * 4294967296 / 18446744073709551616 = U / 4294967296 by omega, show (U + p) * 4294967296 / 18446744073709551616 = U / 4294967296 by omega]
  show [_, IntKind.u64.wrap (((U % 4294967296 : Nat) : Int) + (p : Int)), _] = _
  rw [hv]
 ·
  rw [hc, show (2 : Nat) ^ (32 * 2) = 18446744073709551616 by decide]
  unfold d3
  rw [show U * 18446744073709551616 / 18446744073709551616 = U by omega, show (U + p) * 18446744073709551616 / 18446744073709551616 = U + p by omega, show U * 18446744073709551616 % 4294967296 = 0 by omega, show (U + p) * 18446744073709551616 % 4294967296 = 0 by omega,
   show U * 18446744073709551616 / 4294967296 % 4294967296 = 0 by omega, show (U + p) * 18446744073709551616 / 4294967296 % 4294967296 = 0 by omega]
  show [_, _, IntKind.u64.wrap (((U % 4294967296 : Nat) : Int) + (p : Int))] = _
  rw [hv]
theorem d3_len (V : Nat) : ((d3 V).length : Int) = 3 := rfl
theorem dv_idx {j : Nat} (hj : j < 96) : wrap64 (Int.tdiv (j : Int) 32) = ((j / 32 : Nat) : Int) ∧ Int.tmod (j : Int) 32 = ((j % 32 : Nat) : Int) ∧ wrap64 ((j : Int) - 1) = (j : Int) - 1 := by
 refine ⟨?_, ?_, ?_⟩
 ·
  rw [td (by omega), w64 (by omega) (by omega)]; omega
 ·
  rw [tm (by omega)]; omega
 ·
  exact w64 (by omega) (by omega)
theorem Div_j1 {A q j r2 : Nat} (hq : 0 < q) (hj : j < 96) (hr : r2 < 4294967296) (he : r2 = 2 * (A / 2 ^ j / 2 % q) + A / 2 ^ j % 2) {R : List Int × List Int}
    (h : Ev (fun k => xaS.l0 k (d3 A) [(q : Int)] (dig (A / 2 ^ j % q)) (d3 (A / 2 ^ j / q * 2 ^ j)) ((j : Int) - 1)) R) :
    Ev (fun k => xaS.j1 k (d3 A) [(q : Int)] (dig r2) (d3 (A / 2 ^ j / 2 / q * 2 ^ (j + 1))) (j : Int)) R := by
  obtain ⟨hs1, hs2⟩ := div_step (a := A / 2 ^ j) hq
  rw [← he] at hs1 hs2
  have hc := Cmp_dig (r := r2) hq
  have hsa := set_at (W := A / 2 ^ j / 2 / q) hj
  obtain ⟨f1, f2, f3⟩ := dv_idx hj
  by_cases hge : q ≤ r2
  · obtain ⟨e1, e2⟩ := hs1 hge
    have hS := Sub_dig hq hge hr
    rw [← e2] at hS
    have eV : A / 2 ^ j / q * 2 ^ j = A / 2 ^ j / 2 / q * 2 ^ (j + 1) + 2 ^ j := by rw [e1, Nat.pow_succ', Nat.add_mul, Nat.one_mul, Nat.mul_comm 2 (A / 2 ^ j / 2 / q), Nat.mul_assoc]
    rw [eV, ← hsa] at h
    rw [if_neg (show ¬ r2 < q by omega)] at hc
    have hpos : (if r2 = q then (0 : Int) else 1) ≥ 0 := by split <;> decide
    refine Ev.step (fun k => by rw [xaS.j1]) (Ev.bind hc ?_)
    refine Ev.congr (fun k => if_pos hpos) (Ev.bind hS ?_)
    refine Ev.congr (fun k => ?_) h
    have g1 : (0 : Int) ≤ ((j / 32 : Nat) : Int) := Int.natCast_nonneg _
    have g2 : ((j / 32 : Nat) : Int) < 3 := by have : j / 32 < 3 := by omega
                                               exact_mod_cast this
    have g3 : (0 : Int) ≤ ((j % 32 : Nat) : Int) := Int.natCast_nonneg _
    rw [f1, f2, f3, d3_len, if_pos g1, if_pos g2, if_pos g3, Int.toNat_natCast]
  · obtain ⟨e1, e2⟩ := hs2 (by omega)
    have eV : A / 2 ^ j / q * 2 ^ j = A / 2 ^ j / 2 / q * 2 ^ (j + 1) := by rw [e1, Nat.pow_succ', Nat.mul_comm 2 (A / 2 ^ j / 2 / q), Nat.mul_assoc]
    rw [eV, e2] at h
    rw [if_pos (show r2 < q by omega)] at hc
    refine Ev.step (fun k => by rw [xaS.j1]) (Ev.bind hc ?_)
    refine Ev.congr (fun k => if_neg (by decide)) ?_
    exact Ev.congr (fun k => by rw [f3]) h
theorem Div_l0 {A q : Nat} (hq : 0 < q) (hq2 : q < 1048576) : ∀ j : Nat, j ≤ 96 →
    Ev (fun k => xaS.l0 k (d3 A) [(q : Int)] (dig (A / 2 ^ j % q)) (d3 (A / 2 ^ j / q * 2 ^ j)) ((j : Int) - 1)) (tr (d3 (A / q)), dig (A % q))
  | 0, _ => by
    have ht := trim (d3 (A / q)) (by show 3 ≤ 100; decide)
    rw [Nat.pow_zero, Nat.div_one, Nat.mul_one]
    refine Ev.step (fun k => ?_) (Ev.bind (f := fun _ t => some (t, dig (A % q))) ht (Ev.now _))
    rw [xaS.l0, if_neg (by decide)]
  | j + 1, hj => by
    have ih := Div_l0 (A := A) hq hq2 j (by omega)
    have ea : A / 2 ^ (j + 1) = A / 2 ^ j / 2 := by rw [Nat.pow_succ, Nat.div_div_eq_div_mul]
    rw [ea]
    have hm := Nat.mod_lt (A / 2 ^ j / 2) hq
    have hS := ShiftUp_dig (r := A / 2 ^ j / 2 % q) (by omega)
    have hb := bit_at A (j := j) (by omega)
    obtain ⟨f1, f2, f3⟩ := dv_idx (j := j) (by omega)
    have ej : (((j + 1 : Nat) : Int) - 1) = (j : Int) := by omega
    rw [ej]
    have g0 : (j : Int) ≥ 0 := Int.natCast_nonneg _
    have g1 : (0 : Int) ≤ ((j / 32 : Nat) : Int) := Int.natCast_nonneg _
    have g2 : ((j / 32 : Nat) : Int) < 3 := by have : j / 32 < 3 := by omega
                                               exact_mod_cast this
    have g3 : (0 : Int) ≤ ((j % 32 : Nat) : Int) := Int.natCast_nonneg _
    refine Ev.step (fun k => by rw [xaS.l0, if_pos g0]) (Ev.bind hS ?_)
    refine Ev.congr (fun k => by rw [f1, f2, d3_len, if_pos g1, if_pos g2, if_pos g3, hb]) ?_
    rcases Nat.mod_two_eq_zero_or_one (A / 2 ^ j) with h0 | h1
    · rw [h0]
      refine Ev.congr (fun k => if_neg (by decide)) ?_
      exact Div_j1 hq (by omega) (by omega) (by rw [h0]; omega) ih
    · rw [h1]
      refine Ev.congr (fun k => if_pos (by decide)) ?_
      refine Ev.bind (Add_one (r := 2 * (A / 2 ^ j / 2 % q)) (by omega)) ?_
      exact Div_j1 hq (by omega) (by omega) (by rw [h1]) ih
theorem lt_bits (c : Nat) : c < 2 ^ bits c := by
 unfold bits
 by_cases h : c = 0
 ·
  rw [if_pos h, h]; decide
 ·
  rw [if_neg h]; exact Nat.lt_log2_self
theorem Div {A q : Nat} (hq : 0 < q) (hq2 : q < 1048576) (h1 : 18446744073709551616 ≤ A) (h2 : A < 79228162514264337593543950336) : Ev (fun k => xaS.f k (d3 A) [(q : Int)]) (tr (d3 (A / q)), dig (A % q)) := by
 obtain ⟨c, hc⟩ : ∃ c, c = A / 18446744073709551616 % 4294967296 := ⟨_, rfl⟩
 have hcl : c < 4294967296 := by omega
 have hL := Len_3 ((A % 4294967296 : Nat) : Int) ((A / 4294967296 % 4294967296 : Nat) : Int) hcl
 have hb := bits_le (n := c) (k := 32) (by omega)
 have hlt := lt_bits c
 have hA : A / 2 ^ (64 + bits c) = 0 := by
  apply Nat.div_eq_of_lt
  rw [Nat.pow_add]
  have e : A / 18446744073709551616 = c := by omega
  have : A < (c + 1) * 18446744073709551616 := by omega
  have h3 : (c + 1) * 18446744073709551616 ≤ 2 ^ bits c * 18446744073709551616 := Nat.mul_le_mul_right _ hlt
  have e5 : 2 ^ 64 * 2 ^ bits c = 2 ^ bits c * 18446744073709551616 := by rw [Nat.mul_comm]
  rw [e5]
  exact Nat.lt_of_lt_of_le this h3
 have hl := Div_l0 (A := A) hq hq2 (64 + bits c) (by omega)
 rw [hA, Nat.zero_mod, Nat.zero_div, Nat.zero_mul] at hl
 have hd : d3 A = [((A % 4294967296 : Nat) : Int), ((A / 4294967296 % 4294967296 : Nat) : Int), (c : Int)] := by rw [hc]; rfl
 rw [← hd] at hL
 rw [show dig 0 = ([] : List Int) from rfl, show d3 0 = List.replicate (3 : Int).toNat (0 : Int) from rfl] at hl
 refine Ev.congr (fun k => ?_) (Ev.bind (f := fun k t => xaS.l0 k (d3 A) [(q : Int)] ([] : List Int) (List.replicate (3 : Int).toNat 0) (wrap64 (t - 1))) hL ?_)
 ·
  unfold xaS.f
  rw [d3_len, if_pos (by decide), if_pos (by decide)]
 ·
  have e : wrap64 (64 + (bits c : Int) - 1) = (((64 + bits c : Nat) : Int)) - 1 := by rw [w64 (by omega) (by omega)]; omega
  rw [← e] at hl
  exact hl
end Go.Proofs.Ytoncignjcgjhhaa.DG
namespace Go.Proofs.Ytoncignjcgjhhaa.FQ
def up (p q : Nat) : Nat := p * 2 ^ (70 + q.log2 - p.log2)
theorem quo_sig {p q : Nat} (h : Fit p q) : (sig p * 18014398509481984) / sig q = up p q / q / 65536 ∧ ((sig p * 18014398509481984) % sig q = 0 ↔ up p q % q = 0 ∧ up p q / q % 65536 = 0) := by
 have hq0 : 0 < q := Nat.pos_of_ne_zero h.q0
 have hpl := h.pl;have hql := h.ql
 obtain ⟨a, ha⟩ : ∃ a, a = 2 ^ (54 + q.log2 - p.log2) := ⟨_, rfl⟩
 obtain ⟨b, hb⟩ : ∃ b, b = 2 ^ (52 - q.log2) := ⟨_, rfl⟩
 have hb0 : 0 < b := by rw [hb]; exact Nat.two_pow_pos _
 have e1 : sig p * 18014398509481984 = (p * a) * b := by
  unfold sig
  rw [show (18014398509481984 : Nat) = 2 ^ 54 by decide, Nat.mul_assoc, ← Nat.pow_add, Nat.mul_assoc, ha, hb, ← Nat.pow_add]
  congr 2
  omega
 have e2 : sig q = q * b := by unfold sig; rw [hb]
 have e3 : up p q = (p * a) * 65536 := by
  unfold up
  rw [show (65536 : Nat) = 2 ^ 16 by decide, Nat.mul_assoc, ha, ← Nat.pow_add]
  congr 2
  omega
 rw [e1, e2, e3]
 obtain ⟨Y, hY⟩ : ∃ Y, Y = p * a := ⟨_, rfl⟩
 rw [← hY, Nat.mul_div_mul_right _ _ hb0, Nat.mul_mod_mul_right, Nat.div_div_eq_div_mul, Nat.mul_div_mul_right _ _ (by decide : 0 < 65536)]
 refine ⟨rfl, ?_⟩
 constructor
 ·
  intro h0
  have h1 : Y % q = 0 := by
   rcases Nat.mul_eq_zero.1 h0 with h1 | h1
   ·
    exact h1
   ·
    omega
  have h2 : Y * 65536 = q * (Y / q * 65536) := by
   have := Nat.div_add_mod Y q
   rw [h1, Nat.add_zero] at this
   rw [← Nat.mul_assoc, this]
  rw [h2, Nat.mul_mod_right, Nat.mul_div_cancel_left _ hq0, Nat.mul_mod_left]
  exact ⟨rfl, rfl⟩
 ·
  rintro ⟨h1, h2⟩
  have h3 := Nat.div_add_mod (Y * 65536) q
  rw [h1, Nat.add_zero] at h3
  obtain ⟨u, hu⟩ : ∃ u, Y * 65536 / q = 65536 * u := ⟨Y * 65536 / q / 65536, by omega⟩
  rw [hu] at h3
  have h4 : Y = q * u := by
   have : q * u * 65536 = Y * 65536 := by rw [← h3, Nat.mul_comm 65536 u, Nat.mul_assoc]
   exact (Nat.eq_of_mul_eq_mul_right (by decide : 0 < 65536) this).symm
  rw [h4, Nat.mul_mod_right, Nat.zero_mul]
def cutUp (t : Nat) (more : Bool) (s : Nat) : Nat := if t / 2 ^ (s - 1) % 2 = 1 ∧ (t % 2 ^ (s - 1) ≠ 0 ∨ more = true ∨ t / 2 ^ s % 2 = 1) then t / 2 ^ s + 1 else t / 2 ^ s
theorem cutUp_17 {t : Nat} {more : Bool} {x : Nat} (hx : x = 2 * (t / 65536) + (if t % 65536 = 0 ∧ more = false then 0 else 1)) : cutUp t more 17 = c2 x := by
 unfold cutUp c2
 simp only [show (2 : Nat) ^ (17 - 1) = 65536 by decide, show (2 : Nat) ^ 17 = 131072 by decide]
 cases more <;> simp only [reduceCtorEq, false_or, true_or, or_true, and_true, and_false, if_false, Bool.false_eq_true] at hx ⊢
 ·
  by_cases h0 : t % 65536 = 0
  ·
   rw [if_pos h0] at hx; subst hx; split <;> split <;> omega
  ·
   rw [if_neg h0] at hx; subst hx; split <;> split <;> omega
 ·
  subst hx; split <;> split <;> omega
theorem cutUp_18 {t : Nat} {more : Bool} {x : Nat} (hx : x = 2 * (t / 65536) + (if t % 65536 = 0 ∧ more = false then 0 else 1)) : cutUp t more 18 = c3 x := by
 unfold cutUp c3
 simp only [show (2 : Nat) ^ (18 - 1) = 131072 by decide, show (2 : Nat) ^ 18 = 262144 by decide]
 cases more <;> simp only [reduceCtorEq, false_or, true_or, or_true, and_true, and_false, if_false, Bool.false_eq_true] at hx ⊢
 ·
  by_cases h0 : t % 65536 = 0
  ·
   rw [if_pos h0] at hx; subst hx; split <;> split <;> omega
  ·
   rw [if_neg h0] at hx; subst hx; split <;> split <;> omega
 ·
  subst hx; split <;> split <;> omega
theorem xhV {p q : Nat} (h : Fit p q) :
  (590295810358705651712 ≤ up p q / q ∧ up p q / q < 1180591620717411303424 ∧ rung p q = (p.log2 + 1021 - q.log2) * 4503599627370496 + cutUp (up p q / q) (decide (up p q % q ≠ 0)) 17) ∨
  (1180591620717411303424 ≤ up p q / q ∧ up p q / q < 2361183241434822606848 ∧ rung p q = (p.log2 + 1021 - q.log2 + 1) * 4503599627370496 + cutUp (up p q / q) (decide (up p q % q ≠ 0)) 18) := by
 have hp := xfG h.p0 (by have := h.pl; omega)
 have hq := xfG h.q0 (by have := h.ql; omega)
 obtain ⟨e1, e2⟩ := quo_sig h
 have hm : mag (sig p * 18014398509481984) (sig q) = 2 * (up p q / q / 65536) + (if up p q / q % 65536 = 0 ∧ decide (up p q % q ≠ 0) = false then 0 else 1) := by
  unfold mag
  rw [e1]
  congr 1
  by_cases h0 : (sig p * 18014398509481984) % sig q = 0
  ·
   obtain ⟨a, b⟩ := e2.1 h0
   rw [if_pos h0, if_pos ⟨b, by simp [a]⟩]
  ·
   rw [if_neg h0, if_neg (fun hc => h0 (e2.2 ⟨by have := hc.2; simpa using this, hc.1⟩))]
 unfold rung
 by_cases hlt : sig p < sig q
 ·
  left
  rw [if_pos hlt]
  have hr := mag_lo hp hq hlt
  rw [hm] at hr
  refine ⟨?_, ?_, by rw [cutUp_17 hm]⟩
  ·
   have := hr.1; split at this <;> omega
  ·
   have := hr.2; split at this <;> omega
 ·
  right
  rw [if_neg hlt]
  have hr := mag_hi hp hq hlt
  rw [hm] at hr
  refine ⟨?_, ?_, by rw [cutUp_18 hm]⟩
  ·
   have := hr.1; split at this <;> omega
  ·
   have := hr.2; split at this <;> omega
end Go.Proofs.Ytoncignjcgjhhaa.FQ
