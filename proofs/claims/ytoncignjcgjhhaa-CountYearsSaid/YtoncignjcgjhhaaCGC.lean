/- Contracts and facts of functions of the program (calendar, dates and their documents), joined in one text by a program of this session. No condition but what each theorem states. -/
import Derived.Test.YtoncignjcgjhhaaCGA
import Derived.Test.YtoncignjcgjhhaaCGB
import Derived.Test.YtoncignjcgjhhaaRows
import Derived.Lib.SmallJoins
import Derived.Deep.Slices
import Derived.Deep.Fields
import Derived.ChangeSame
import Derived.ProofKit
import Derived.OpenShut
import Derived.ChangeOld
import Derived.SizedLaws
set_option linter.unusedVariables false
set_option linter.unusedSimpArgs false
namespace Go.Proofs.Ytoncignjcgjhhaa.Q
open Go.RowKit Go.Proofs.YtoncignjcgjhhaaW.PrintWords Go.Proofs.YtoncignjcgjhhaaW.PrintLast Go.Proofs.YtoncignjcgjhhaaW.PrintMore
attribute [local go_sem] xcC xcB xcR xcQ xbX xbW xcF xcE   -- for this text's walks alone
def xeW.f (a0_0 : Int) (a0_1 : Int) (a0_2 : Int) (a0_3 : Int) (a0_4 : Int) (a0_5 : Int) (a0_6 : Int) (a0_7 : Int) (a0_8 : Int) (a1 : Int) : Option (Int × Bool) := (xfJ.f a1).bind fun bt136 => (some (wrap64 (bt136.1 + a0_5), true))
set_option maxHeartbeats 8000000 in
set_option maxRecDepth 100000 in
theorem xeW.calls (a0_0 : Int) (a0_1 : Int) (a0_2 : Int) (a0_3 : Int) (a0_4 : Int) (a0_5 : Int) (a0_6 : Int) (a0_7 : Int) (a0_8 : Int) (a1 : Int) (r1 : Int) (r2 : Bool) (w : World) (h : xeW.f a0_0 a0_1 a0_2 a0_3 a0_4 a0_5 a0_6 a0_7 a0_8 a1 = some (r1, r2)) :
  Calls Try.prog 160 #[.agg #[.int .i64 a0_0, .int .i64 a0_1, .int .i64 a0_2, .int .i64 a0_3, .int .i64 a0_4, .int .i64 a0_5, .int .i64 a0_6, .int .i64 a0_7, .int .i64 a0_8], .int .i64 a1] w fun e w' => e = .returned (.tuple #[.int .i64 r1, .bool r2]) ∧ Below w.heap.size w w' := by
 have hu134 := Try.underlying134
 have HB := Aside0.mk (Below.refl w.heap.size w)
 have H : ((xfJ.f a1).bind fun bt136 => (some (wrap64 (bt136.1 + a0_5), true))) = some (r1, r2) := h
 clear h;replace H := Option.bind_eq_some_iff.mp H
 obtain ⟨⟨t136, t137⟩, A30, H⟩ := H
 replace H : (some (wrap64 (t136 + a0_5), true)) = some (r1, r2) := H
 have A3 := Aside0.mk A30;clear A30
 simp only [Option.some.injEq, Prod.mk.injEq] at H
 obtain ⟨rfl, rfl⟩ := H
 go_enter Try.func160, Try.ntmps160
 go_wp2_with (first | ((with_reducible refine xbM (N := 2) rfl ?_); refine xbJ ?hg (N := 2) ?hd (cs := #[.int .i64 a0_0, .int .i64 a0_1, .int .i64 a0_2, .int .i64 a0_3, .int .i64 a0_4, .int .i64 a0_5, .int .i64 a0_6, .int .i64 a0_7, .int .i64 a0_8]) (t := 134) ?hr ?_; (case hd => rfl); (case hg => rfl); (case hr => first | (go_simp; done) | (go_simp; rfl)); intro gb135 hg w4 hbox hb; have n0_ := Aside0.mk (xaP (by repeat (first | (with_reducible first | exact HB.out | apply xaB | apply xaA | apply xaC) | exact HB.out)) hb); have n1_ := Aside0.mk (hbox); have n2_ := Aside0.mk ((by rw [hg]; exact (xaR (by repeat (first | (with_reducible first | exact HB.out | apply xaB | apply xaA | apply xaC) | exact HB.out))) : w.heap.size ≤ gb135)); have n3_ := Aside0.mk ((by rw [hg]; exact (xaR (by repeat (first | (with_reducible first | exact HB.out | apply xaB | apply xaA | apply xaC) | exact HB.out))) : w.heap.size ≤ gb135)); clear HB; have HB := n0_; have BK135 := n1_; have GW135 := n2_; have GE135 := n3_; clear n0_ n1_ n2_ n3_; clear hb hbox hg) | ((with_reducible refine xaQ (f := 162) rfl ?_); refine goesL_ (some 10) rfl rfl Try.func162 (by kernel_rfl) rfl #[.int .i64 a1] rfl (by (try simp only [List.map_toArray, List.map_cons, List.map_nil]); first | done | rfl | (simp only [List.length_drop, List.length_take]; rfl)) ?_; (with_reducible refine (xfJ.calls a1 t136 t137 _ A3.out).mono ?_); rintro e w' ⟨rfl, ⟨nd, rfl⟩⟩; refine ⟨_, rfl, ?_⟩; have hcz5_0 : w4.cell? ⟨gb135, 0, none⟩ = some (.int .i64 a0_0) := (xaE BK135.out 0).trans rfl; have hcz5_1 : w4.cell? ⟨gb135, 1, none⟩ = some (.int .i64 a0_1) := (xaE BK135.out 1).trans rfl; have hcz5_2 : w4.cell? ⟨gb135, 2, none⟩ = some (.int .i64 a0_2) := (xaE BK135.out 2).trans rfl; have hcz5_3 : w4.cell? ⟨gb135, 3, none⟩ = some (.int .i64 a0_3) := (xaE BK135.out 3).trans rfl; have hcz5_4 : w4.cell? ⟨gb135, 4, none⟩ = some (.int .i64 a0_4) := (xaE BK135.out 4).trans rfl; have hcz5_5 : w4.cell? ⟨gb135, 5, none⟩ = some (.int .i64 a0_5) := (xaE BK135.out 5).trans rfl; have hcz5_6 : w4.cell? ⟨gb135, 6, none⟩ = some (.int .i64 a0_6) := (xaE BK135.out 6).trans rfl; have hcz5_7 : w4.cell? ⟨gb135, 7, none⟩ = some (.int .i64 a0_7) := (xaE BK135.out 7).trans rfl; have hcz5_8 : w4.cell? ⟨gb135, 8, none⟩ = some (.int .i64 a0_8) := (xaE BK135.out 8).trans rfl; have hfz5_0 := xaD BK135.out 0; have hfz5_1 := xaD BK135.out 1; have hfz5_2 := xaD BK135.out 2; have hfz5_3 := xaD BK135.out 3; have hfz5_4 := xaD BK135.out 4; have hfz5_5 := xaD BK135.out 5; have hfz5_6 := xaD BK135.out 6; have hfz5_7 := xaD BK135.out 7; have hfz5_8 := xaD BK135.out 8))
 go_ret2
 exact ⟨by first | rfl | (simp [xaL, xaK] <;> rfl) | (simp [*, xaL, xaK] <;> rfl), by repeat (first | (with_reducible first | exact HB.out | apply xaB | apply xaA | apply xaC | refine xaF ?_ GE135.out) | exact HB.out)⟩
def xeU.f (a0_0 : Int) (a0_1 : Int) (a0_2 : Int) (a0_3 : Int) (a0_4 : Int) (a0_5 : Int) (a0_6 : Int) (a0_7 : Int) (a0_8 : Int) : Option (Bool) := if (Go.bits .or .i64 (Go.bits .or .i64 (Go.bits .or .i64 (Go.bits .or .i64 (Go.bits .or .i64 (Go.bits .or .i64 a0_1 a0_3) a0_4) a0_5) a0_6) a0_7) a0_8) = 0 then ((xbL.f a0_2 0 109572).bind fun t139 => (some t139)) else (some false)
set_option maxHeartbeats 8000000 in
set_option maxRecDepth 100000 in
theorem xeU.calls (a0_0 : Int) (a0_1 : Int) (a0_2 : Int) (a0_3 : Int) (a0_4 : Int) (a0_5 : Int) (a0_6 : Int) (a0_7 : Int) (a0_8 : Int) (r : Bool) (w : World) (h : xeU.f a0_0 a0_1 a0_2 a0_3 a0_4 a0_5 a0_6 a0_7 a0_8 = some r) :
  Calls Try.prog 164 #[.agg #[.int .i64 a0_0, .int .i64 a0_1, .int .i64 a0_2, .int .i64 a0_3, .int .i64 a0_4, .int .i64 a0_5, .int .i64 a0_6, .int .i64 a0_7, .int .i64 a0_8]] w fun e w' => e = .returned (.bool r) ∧ Below w.heap.size w w' := by
 have hu135 := Try.underlying135
 have HB := Aside0.mk (Below.refl w.heap.size w)
 have H : (if (Go.bits .or .i64 (Go.bits .or .i64 (Go.bits .or .i64 (Go.bits .or .i64 (Go.bits .or .i64 (Go.bits .or .i64 a0_1 a0_3) a0_4) a0_5) a0_6) a0_7) a0_8) = 0 then ((xbL.f a0_2 0 109572).bind fun t139 => (some t139)) else (some false)) = some r := h
 clear h
 by_cases c2 : (Go.bits .or .i64 (Go.bits .or .i64 (Go.bits .or .i64 (Go.bits .or .i64 (Go.bits .or .i64 (Go.bits .or .i64 a0_1 a0_3) a0_4) a0_5) a0_6) a0_7) a0_8) = 0
 ·
  rw [if_pos c2] at H
  have c2b0 : ((Go.bits .or .i64 (Go.bits .or .i64 (Go.bits .or .i64 (Go.bits .or .i64 (Go.bits .or .i64 (Go.bits .or .i64 a0_1 a0_3) a0_4) a0_5) a0_6) a0_7) a0_8) == 0) = true := beq_iff_eq.mpr c2
  have c2b1 : ((Go.bits .or .i64 (Go.bits .or .i64 (Go.bits .or .i64 (Go.bits .or .i64 (Go.bits .or .i64 (Go.bits .or .i64 a0_1 a0_3) a0_4) a0_5) a0_6) a0_7) a0_8) != 0) = false := bne_eq_false_iff_eq.mpr c2
  clear c2;replace H := Option.bind_eq_some_iff.mp H
  obtain ⟨t139, A30, H⟩ := H
  replace H : (some t139) = some r := H
  have A3 := Aside0.mk A30;clear A30
  obtain rfl := Option.some.inj H
  go_enter Try.func164, Try.ntmps164
  go_wp2_with (first | ((with_reducible refine xbM (N := 1) rfl ?_); refine xbJ ?hg (N := 1) ?hd (cs := #[.int .i64 a0_0, .int .i64 a0_1, .int .i64 a0_2, .int .i64 a0_3, .int .i64 a0_4, .int .i64 a0_5, .int .i64 a0_6, .int .i64 a0_7, .int .i64 a0_8]) (t := 135) ?hr ?_; (case hd => rfl); (case hg => rfl); (case hr => first | (go_simp; done) | (go_simp; rfl)); intro gb138 hg w4 hbox hb; have n0_ := Aside0.mk (xaP (by repeat (first | (with_reducible first | exact HB.out | apply xaB | apply xaA | apply xaC) | exact HB.out)) hb); have n1_ := Aside0.mk (hbox); have n2_ := Aside0.mk ((by rw [hg]; exact (xaR (by repeat (first | (with_reducible first | exact HB.out | apply xaB | apply xaA | apply xaC) | exact HB.out))) : w.heap.size ≤ gb138)); have n3_ := Aside0.mk ((by rw [hg]; exact (xaR (by repeat (first | (with_reducible first | exact HB.out | apply xaB | apply xaA | apply xaC) | exact HB.out))) : w.heap.size ≤ gb138)); clear HB; have HB := n0_; have BK138 := n1_; have GW138 := n2_; have GE138 := n3_; clear n0_ n1_ n2_ n3_; clear hb hbox hg; have hcz5_0 : w4.cell? ⟨gb138, 0, none⟩ = some (.int .i64 a0_0) := (xaE BK138.out 0).trans rfl; have hcz5_1 : w4.cell? ⟨gb138, 1, none⟩ = some (.int .i64 a0_1) := (xaE BK138.out 1).trans rfl; have hcz5_2 : w4.cell? ⟨gb138, 2, none⟩ = some (.int .i64 a0_2) := (xaE BK138.out 2).trans rfl; have hcz5_3 : w4.cell? ⟨gb138, 3, none⟩ = some (.int .i64 a0_3) := (xaE BK138.out 3).trans rfl; have hcz5_4 : w4.cell? ⟨gb138, 4, none⟩ = some (.int .i64 a0_4) := (xaE BK138.out 4).trans rfl; have hcz5_5 : w4.cell? ⟨gb138, 5, none⟩ = some (.int .i64 a0_5) := (xaE BK138.out 5).trans rfl; have hcz5_6 : w4.cell? ⟨gb138, 6, none⟩ = some (.int .i64 a0_6) := (xaE BK138.out 6).trans rfl; have hcz5_7 : w4.cell? ⟨gb138, 7, none⟩ = some (.int .i64 a0_7) := (xaE BK138.out 7).trans rfl; have hcz5_8 : w4.cell? ⟨gb138, 8, none⟩ = some (.int .i64 a0_8) := (xaE BK138.out 8).trans rfl; have hfz5_0 := xaD BK138.out 0; have hfz5_1 := xaD BK138.out 1; have hfz5_2 := xaD BK138.out 2; have hfz5_3 := xaD BK138.out 3; have hfz5_4 := xaD BK138.out 4; have hfz5_5 := xaD BK138.out 5; have hfz5_6 := xaD BK138.out 6; have hfz5_7 := xaD BK138.out 7; have hfz5_8 := xaD BK138.out 8) | (go_at_call 83; (with_reducible refine (xbL.calls a0_2 0 109572 t139 _ A3.out).mono ?_); rintro e w' ⟨rfl, ⟨nd, rfl⟩⟩))
  go_ret
  exact ⟨by first | rfl | (simp [xaL, xaK] <;> rfl) | (simp [*, xaL, xaK] <;> rfl), by repeat (first | (with_reducible first | exact HB.out | apply xaB | apply xaA | apply xaC | refine xaF ?_ GE138.out) | exact HB.out)⟩
 ·
  rw [if_neg c2] at H
  have c2b0 : ((Go.bits .or .i64 (Go.bits .or .i64 (Go.bits .or .i64 (Go.bits .or .i64 (Go.bits .or .i64 (Go.bits .or .i64 a0_1 a0_3) a0_4) a0_5) a0_6) a0_7) a0_8) == 0) = false := beq_eq_false_iff_ne.mpr c2
  have c2b1 : ((Go.bits .or .i64 (Go.bits .or .i64 (Go.bits .or .i64 (Go.bits .or .i64 (Go.bits .or .i64 (Go.bits .or .i64 a0_1 a0_3) a0_4) a0_5) a0_6) a0_7) a0_8) != 0) = true := bne_iff_ne.mpr c2
  obtain rfl := Option.some.inj H
  go_enter Try.func164, Try.ntmps164
  go_wp2_with (first | ((with_reducible refine xbM (N := 1) rfl ?_); refine xbJ ?hg (N := 1) ?hd (cs := #[.int .i64 a0_0, .int .i64 a0_1, .int .i64 a0_2, .int .i64 a0_3, .int .i64 a0_4, .int .i64 a0_5, .int .i64 a0_6, .int .i64 a0_7, .int .i64 a0_8]) (t := 135) ?hr ?_; (case hd => rfl); (case hg => rfl); (case hr => first | (go_simp; done) | (go_simp; rfl)); intro gb138 hg w6 hbox hb; have n0_ := Aside0.mk (xaP (by repeat (first | (with_reducible first | exact HB.out | apply xaB | apply xaA | apply xaC) | exact HB.out)) hb); have n1_ := Aside0.mk (hbox); have n2_ := Aside0.mk ((by rw [hg]; exact (xaR (by repeat (first | (with_reducible first | exact HB.out | apply xaB | apply xaA | apply xaC) | exact HB.out))) : w.heap.size ≤ gb138)); have n3_ := Aside0.mk ((by rw [hg]; exact (xaR (by repeat (first | (with_reducible first | exact HB.out | apply xaB | apply xaA | apply xaC) | exact HB.out))) : w.heap.size ≤ gb138)); clear HB; have HB := n0_; have BK138 := n1_; have GW138 := n2_; have GE138 := n3_; clear n0_ n1_ n2_ n3_; clear hb hbox hg; have hcz7_0 : w6.cell? ⟨gb138, 0, none⟩ = some (.int .i64 a0_0) := (xaE BK138.out 0).trans rfl; have hcz7_1 : w6.cell? ⟨gb138, 1, none⟩ = some (.int .i64 a0_1) := (xaE BK138.out 1).trans rfl; have hcz7_2 : w6.cell? ⟨gb138, 2, none⟩ = some (.int .i64 a0_2) := (xaE BK138.out 2).trans rfl; have hcz7_3 : w6.cell? ⟨gb138, 3, none⟩ = some (.int .i64 a0_3) := (xaE BK138.out 3).trans rfl; have hcz7_4 : w6.cell? ⟨gb138, 4, none⟩ = some (.int .i64 a0_4) := (xaE BK138.out 4).trans rfl; have hcz7_5 : w6.cell? ⟨gb138, 5, none⟩ = some (.int .i64 a0_5) := (xaE BK138.out 5).trans rfl; have hcz7_6 : w6.cell? ⟨gb138, 6, none⟩ = some (.int .i64 a0_6) := (xaE BK138.out 6).trans rfl; have hcz7_7 : w6.cell? ⟨gb138, 7, none⟩ = some (.int .i64 a0_7) := (xaE BK138.out 7).trans rfl; have hcz7_8 : w6.cell? ⟨gb138, 8, none⟩ = some (.int .i64 a0_8) := (xaE BK138.out 8).trans rfl; have hfz7_0 := xaD BK138.out 0; have hfz7_1 := xaD BK138.out 1; have hfz7_2 := xaD BK138.out 2; have hfz7_3 := xaD BK138.out 3; have hfz7_4 := xaD BK138.out 4; have hfz7_5 := xaD BK138.out 5; have hfz7_6 := xaD BK138.out 6; have hfz7_7 := xaD BK138.out 7; have hfz7_8 := xaD BK138.out 8))
  go_ret
  exact ⟨by first | rfl | (simp [xaL, xaK] <;> rfl) | (simp [*, xaL, xaK] <;> rfl), by repeat (first | (with_reducible first | exact HB.out | apply xaB | apply xaA | apply xaC | refine xaF ?_ GE138.out) | exact HB.out)⟩
def xgM.f (a0 : Int) : Option (Bool) := if a0 ≥ 0 then (some (decide (a0 ≤ 109572))) else (some false)
set_option maxHeartbeats 8000000 in
set_option maxRecDepth 100000 in
theorem xgM.calls (a0 : Int) (r : Bool) (w : World) (h : xgM.f a0 = some r) :
  Calls Try.prog 119 #[.int .i64 a0] w fun e w' => e = .returned (.bool r) ∧ Drawn0 w w' := by
 have H : (if a0 ≥ 0 then (some (decide (a0 ≤ 109572))) else (some false)) = some r := h
 clear h
 by_cases c2 : a0 ≥ 0
 ·
  rw [if_pos c2] at H
  have c2b0 : decide (0 ≤ a0) = true := decide_eq_true c2
  clear c2
  obtain rfl := Option.some.inj H
  go_enter Try.func119, Try.ntmps119
  go_wp2
  go_ret
  exact ⟨by first | rfl | (simp; done) | (simp [*]; done), by repeat (first | exact Drawn0.refl _ | apply Drawn0.step)⟩
 ·
  rw [if_neg c2] at H
  have c2b0 : decide (0 ≤ a0) = false := decide_eq_false c2
  clear c2
  obtain rfl := Option.some.inj H
  go_enter Try.func119, Try.ntmps119
  go_wp2
  go_ret
  exact ⟨by first | rfl | (simp; done) | (simp [*]; done), by repeat (first | exact Drawn0.refl _ | apply Drawn0.step)⟩
mutual
def xcG.l0 : Nat → Int → Int → Option (Int × Int × Int)
  | 0, _, _ => none
  | k + 1, x0, x2 => (xdK.f (wrap64 (x2 + 1))).bind fun t140 => (if t140 ≤ x0 then (xcG.l0 k x0 (wrap64 (x2 + 1))) else ((xdK.f x2).bind fun t141 => (xcG.l1 k x2 1 (wrap64 (x0 - t141)))))
def xcG.l1 : Nat → Int → Int → Int → Option (Int × Int × Int)
  | 0, _, _, _ => none
  | k + 1, x2, x3, x4 => (xcS.f x2 x3).bind fun t142 => (if x4 ≥ t142 then ((xcS.f x2 x3).bind fun t143 => (xcG.l1 k x2 (wrap64 (x3 + 1)) (wrap64 (x4 - t143)))) else (some (x2, x3, wrap64 (x4 + 1))))
end
def xcG.f (k : Nat) (a0 : Int) : Option (Int × Int × Int) := xcG.l0 k a0 (wrap64 (1900 + (wrap64 (Int.tdiv a0 366))))
set_option maxHeartbeats 8000000 in
set_option maxRecDepth 100000 in
theorem xcG.calls (k : Nat) (a0 : Int) (r1 : Int) (r2 : Int) (r3 : Int) (w : World) (h : xcG.f k a0 = some (r1, r2, r3)) :
  Calls Try.prog 120 #[.int .i64 a0] w fun e w' => e = .returned (.tuple #[.int .i64 r1, .int .i64 r2, .int .i64 r3]) ∧ Drawn0 w w' := by
 have H : (xcG.l0 k a0 (wrap64 (1900 + (wrap64 (Int.tdiv a0 366))))) = some (r1, r2, r3) := h
 clear h;have H' := Aside0.mk H;clear H
 go_enter Try.func120, Try.ntmps120
 go_wp2
 go_loopg [2] k (fun kq v2 w' => ∃ (x2_1 : Int), v2 = .int .i64 x2_1 ∧ Aside0 (xcG.l0 kq a0 x2_1 = some (r1, r2, r3)) ∧ Aside0 (kq ≤ k) ∧ Drawn0 w w')
 case atStart => exact ⟨(wrap64 (1900 + (wrap64 (Int.tdiv a0 366)))), (by first | rfl | (simp; done) | (simp [*]; done)), H', ⟨Nat.le_refl _⟩, by repeat (first | exact Drawn0.refl _ | apply Drawn0.step)⟩
 case round =>
  clear H'
  obtain ⟨x2_1, rfl, HA, HK1, ⟨m1, rfl⟩⟩ := hrel
  cases gk with
  | zero => exact absurd HA.out (by simp [xcG.l0])
  | succ k1 =>
   have H := HA.out;clear HA
   simp only [xcG.l0] at H
   replace H := Option.bind_eq_some_iff.mp H
   obtain ⟨t140, A20, H⟩ := H
   replace H : (if t140 ≤ a0 then (xcG.l0 k1 a0 (wrap64 (x2_1 + 1))) else ((xdK.f x2_1).bind fun t141 => (xcG.l1 k1 x2_1 1 (wrap64 (a0 - t141))))) = some (r1, r2, r3) := H
   have A2 := Aside0.mk A20;clear A20
   by_cases c3 : t140 ≤ a0
   ·
    rw [if_pos c3] at H
    have c3b0 : decide (t140 ≤ a0) = true := decide_eq_true c3
    clear c3;have H' := Aside0.mk H;clear H
    go_wp2_with (first | ((with_reducible refine xaQ (f := 136) rfl ?_); refine goesL_ (some 10) rfl rfl Try.func136 (by kernel_rfl) rfl #[.int .i64 (wrap64 (x2_1 + 1))] rfl (by (try simp only [List.map_toArray, List.map_cons, List.map_nil]); first | done | rfl | (simp only [List.length_drop, List.length_take]; rfl)) ?_; (with_reducible refine (xdK.calls (wrap64 (x2_1 + 1)) t140 _ A2.out).mono ?_); rintro e w' ⟨rfl, ⟨nd, rfl⟩⟩; refine ⟨_, rfl, ?_⟩))
    go_roundg k1
    case measure => have := HK1.out; omega
    case rel => exact ⟨(wrap64 (x2_1 + 1)), (by first | rfl | (simp; done) | (simp [*]; done)), H', ⟨by have := HK1.out; omega⟩, by repeat (first | exact Drawn0.refl _ | apply Drawn0.step)⟩
   ·
    rw [if_neg c3] at H
    have c3b0 : decide (t140 ≤ a0) = false := decide_eq_false c3
    clear c3;replace H := Option.bind_eq_some_iff.mp H
    obtain ⟨t141, A40, H⟩ := H
    replace H : (xcG.l1 k1 x2_1 1 (wrap64 (a0 - t141))) = some (r1, r2, r3) := H
    have A4 := Aside0.mk A40;clear A40;have H' := Aside0.mk H;clear H
    go_wp2_with (first | ((with_reducible refine xaQ (f := 136) rfl ?_); refine goesL_ (some 10) rfl rfl Try.func136 (by kernel_rfl) rfl #[.int .i64 (wrap64 (x2_1 + 1))] rfl (by (try simp only [List.map_toArray, List.map_cons, List.map_nil]); first | done | rfl | (simp only [List.length_drop, List.length_take]; rfl)) ?_; (with_reducible refine (xdK.calls (wrap64 (x2_1 + 1)) t140 _ A2.out).mono ?_); rintro e w' ⟨rfl, ⟨nd, rfl⟩⟩; refine ⟨_, rfl, ?_⟩) | ((with_reducible refine xaQ (f := 136) rfl ?_); refine goesL_ (some 17) rfl rfl Try.func136 (by kernel_rfl) rfl #[.int .i64 x2_1] rfl (by (try simp only [List.map_toArray, List.map_cons, List.map_nil]); first | done | rfl | (simp only [List.length_drop, List.length_take]; rfl)) ?_; (with_reducible refine (xdK.calls x2_1 t141 _ A4.out).mono ?_); rintro e w' ⟨rfl, ⟨nd, rfl⟩⟩; refine ⟨_, rfl, ?_⟩))
    go_loopg [3, 4] k1 (fun kq v3 v4 w' => ∃ (x3_2 : Int) (x4_2 : Int), v3 = .int .i64 x3_2 ∧ v4 = .int .i64 x4_2 ∧ Aside0 (xcG.l1 kq x2_1 x3_2 x4_2 = some (r1, r2, r3)) ∧ Aside0 (kq ≤ k1) ∧ Drawn0 w w')
    case atStart => exact ⟨(1), (wrap64 (a0 - t141)), (by first | rfl | (simp; done) | (simp [*]; done)), (by first | rfl | (simp; done) | (simp [*]; done)), H', ⟨Nat.le_refl _⟩, by repeat (first | exact Drawn0.refl _ | apply Drawn0.step)⟩
    case round =>
     clear H'
     obtain ⟨x3_2, x4_2, rfl, rfl, HA, HK2, ⟨m2, rfl⟩⟩ := hrel
     cases gk with
     | zero => exact absurd HA.out (by simp [xcG.l1])
     | succ k2 =>
      have H := HA.out;clear HA
      simp only [xcG.l1] at H
      replace H := Option.bind_eq_some_iff.mp H
      obtain ⟨t142, A50, H⟩ := H
      replace H : (if x4_2 ≥ t142 then ((xcS.f x2_1 x3_2).bind fun t143 => (xcG.l1 k2 x2_1 (wrap64 (x3_2 + 1)) (wrap64 (x4_2 - t143)))) else (some (x2_1, x3_2, wrap64 (x4_2 + 1)))) = some (r1, r2, r3) := H
      have A5 := Aside0.mk A50;clear A50
      by_cases c6 : x4_2 ≥ t142
      ·
       rw [if_pos c6] at H
       have c6b0 : decide (t142 ≤ x4_2) = true := decide_eq_true c6
       clear c6;replace H := Option.bind_eq_some_iff.mp H
       obtain ⟨t143, A70, H⟩ := H
       replace H : (xcG.l1 k2 x2_1 (wrap64 (x3_2 + 1)) (wrap64 (x4_2 - t143))) = some (r1, r2, r3) := H
       have A7 := Aside0.mk A70;clear A70;have H' := Aside0.mk H;clear H
       go_wp2_with (first | ((with_reducible refine xaQ (f := 122) rfl ?_); refine goesL_ (some 22) rfl rfl Try.func122 (by kernel_rfl) rfl #[.int .i64 x2_1, .int .i64 x3_2] rfl (by (try simp only [List.map_toArray, List.map_cons, List.map_nil]); first | done | rfl | (simp only [List.length_drop, List.length_take]; rfl)) ?_; (with_reducible refine (xcS.calls x2_1 x3_2 t142 _ A5.out).mono ?_); rintro e w' ⟨rfl, ⟨nd, rfl⟩⟩; refine ⟨_, rfl, ?_⟩) | ((with_reducible refine xaQ (f := 122) rfl ?_); refine goesL_ (some 29) rfl rfl Try.func122 (by kernel_rfl) rfl #[.int .i64 x2_1, .int .i64 x3_2] rfl (by (try simp only [List.map_toArray, List.map_cons, List.map_nil]); first | done | rfl | (simp only [List.length_drop, List.length_take]; rfl)) ?_; (with_reducible refine (xcS.calls x2_1 x3_2 t143 _ A7.out).mono ?_); rintro e w' ⟨rfl, ⟨nd, rfl⟩⟩; refine ⟨_, rfl, ?_⟩))
       go_roundg k2
       case measure => have := HK1.out; have := HK2.out; omega
       case rel => exact ⟨(wrap64 (x3_2 + 1)), (wrap64 (x4_2 - t143)), (by first | rfl | (simp; done) | (simp [*]; done)), (by first | rfl | (simp; done) | (simp [*]; done)), H', ⟨by have := HK1.out; have := HK2.out; omega⟩, by repeat (first | exact Drawn0.refl _ | apply Drawn0.step)⟩
      ·
       rw [if_neg c6] at H
       have c6b0 : decide (t142 ≤ x4_2) = false := decide_eq_false c6
       clear c6
       simp only [Option.some.injEq, Prod.mk.injEq] at H
       obtain ⟨rfl, rfl, rfl⟩ := H
       go_wp2_with (first | ((with_reducible refine xaQ (f := 122) rfl ?_); refine goesL_ (some 22) rfl rfl Try.func122 (by kernel_rfl) rfl #[.int .i64 x2_1, .int .i64 x3_2] rfl (by (try simp only [List.map_toArray, List.map_cons, List.map_nil]); first | done | rfl | (simp only [List.length_drop, List.length_take]; rfl)) ?_; (with_reducible refine (xcS.calls x2_1 x3_2 t142 _ A5.out).mono ?_); rintro e w' ⟨rfl, ⟨nd, rfl⟩⟩; refine ⟨_, rfl, ?_⟩))
       go_ret3
       exact ⟨by first | rfl | (simp; done) | (simp [*]; done), by repeat (first | exact Drawn0.refl _ | apply Drawn0.step)⟩
def xdA.f (k : Nat) (a0 : Int) : Option (Int × Int × Int × Int) := (xgM.f a0).bind fun t144 => (if t144 = true then ((xcG.f k a0).bind fun bt145 => (some (bt145.1, bt145.2.1, bt145.2.2, 0))) else (some (0, 0, 0, 51)))
set_option maxHeartbeats 8000000 in
set_option maxRecDepth 100000 in
theorem xdA.calls (k : Nat) (a0 : Int) (r1 : Int) (r2 : Int) (r3 : Int) (r4 : Int) (w : World) (h : xdA.f k a0 = some (r1, r2, r3, r4)) :
  Calls Try.prog 93 #[.int .i64 a0] w fun e w' => e = .returned (.tuple #[.int .i64 r1, .int .i64 r2, .int .i64 r3, .int .i64 r4]) ∧ Drawn0 w w' := by
 have H : ((xgM.f a0).bind fun t144 => (if t144 = true then ((xcG.f k a0).bind fun bt145 => (some (bt145.1, bt145.2.1, bt145.2.2, 0))) else (some (0, 0, 0, 51)))) = some (r1, r2, r3, r4) := h
 clear h;replace H := Option.bind_eq_some_iff.mp H
 obtain ⟨t144, A20, H⟩ := H
 replace H : (if t144 = true then ((xcG.f k a0).bind fun bt145 => (some (bt145.1, bt145.2.1, bt145.2.2, 0))) else (some (0, 0, 0, 51))) = some (r1, r2, r3, r4) := H
 have A2 := Aside0.mk A20;clear A20
 by_cases c3 : t144 = true
 ·
  subst c3
  have H1 : ((xcG.f k a0).bind fun bt145 => (some (bt145.1, bt145.2.1, bt145.2.2, 0))) = some (r1, r2, r3, r4) := by rw [if_pos rfl] at H; exact H
  clear H;have H := H1;clear H1;replace H := Option.bind_eq_some_iff.mp H
  obtain ⟨⟨t145, t146, t147⟩, A40, H⟩ := H
  replace H : (some (t145, t146, t147, 0)) = some (r1, r2, r3, r4) := H
  have A4 := Aside0.mk A40;clear A40
  simp only [Option.some.injEq, Prod.mk.injEq] at H
  obtain ⟨rfl, rfl, rfl, rfl⟩ := H
  go_enter Try.func93, Try.ntmps93
  go_wp2_with (first | ((with_reducible refine xaQ (f := 119) rfl ?_); refine goesL_ (some 7) rfl rfl Try.func119 (by kernel_rfl) rfl #[.int .i64 a0] rfl (by (try simp only [List.map_toArray, List.map_cons, List.map_nil]); first | done | rfl | (simp only [List.length_drop, List.length_take]; rfl)) ?_; (with_reducible refine (xgM.calls a0 true _ A2.out).mono ?_); rintro e w' ⟨rfl, ⟨nd, rfl⟩⟩; refine ⟨_, rfl, ?_⟩) | ((with_reducible refine xaQ (f := 120) rfl ?_); refine goesL_ (some 11) rfl rfl Try.func120 (by kernel_rfl) rfl #[.int .i64 a0] rfl (by (try simp only [List.map_toArray, List.map_cons, List.map_nil]); first | done | rfl | (simp only [List.length_drop, List.length_take]; rfl)) ?_; (with_reducible refine (xcG.calls k a0 t145 t146 t147 _ A4.out).mono ?_); rintro e w' ⟨rfl, ⟨nd, rfl⟩⟩; refine ⟨_, rfl, ?_⟩))
  refine bodyPost_ret (xhH (rs := [.tmp 2, .tmp 3, .tmp 4, .tmp 5]) rfl (by simp) (.tmp (.tmp (.tmp (.tmp .nil))))) rfl ?_
  exact ⟨by first | rfl | (simp; done) | (simp [*]; done), by repeat (first | exact Drawn0.refl _ | apply Drawn0.step)⟩
 ·
  replace c3 := Bool.eq_false_iff.mpr c3;subst c3
  have H1 : (some (0, 0, 0, 51)) = some (r1, r2, r3, r4) := by rw [if_neg (show ¬ (false = true) by decide)] at H; exact H
  clear H;have H := H1;clear H1
  simp only [Option.some.injEq, Prod.mk.injEq] at H
  obtain ⟨rfl, rfl, rfl, rfl⟩ := H
  go_enter Try.func93, Try.ntmps93
  go_wp2_with (first | ((with_reducible refine xaQ (f := 119) rfl ?_); refine goesL_ (some 7) rfl rfl Try.func119 (by kernel_rfl) rfl #[.int .i64 a0] rfl (by (try simp only [List.map_toArray, List.map_cons, List.map_nil]); first | done | rfl | (simp only [List.length_drop, List.length_take]; rfl)) ?_; (with_reducible refine (xgM.calls a0 false _ A2.out).mono ?_); rintro e w' ⟨rfl, ⟨nd, rfl⟩⟩; refine ⟨_, rfl, ?_⟩))
  refine bodyPost_ret (xhH (rs := [.tmp 2, .tmp 3, .tmp 4, .tmp 5]) rfl (by simp) (.tmp (.tmp (.tmp (.tmp .nil))))) rfl ?_
  exact ⟨by first | rfl | (simp; done) | (simp [*]; done), by repeat (first | exact Drawn0.refl _ | apply Drawn0.step)⟩
def xfK.f (k : Nat) (a0_0 : Int) (a0_1 : Int) (a0_2 : Int) (a0_3 : Int) (a0_4 : Int) (a0_5 : Int) (a0_6 : Int) (a0_7 : Int) (a0_8 : Int) (a1 : Int) : Option (Int × Bool) := (xdA.f k a0_2).bind fun bt149 => (some (a0_2, (bt149.1 == a1)))
set_option maxHeartbeats 8000000 in
set_option maxRecDepth 100000 in
theorem xfK.calls (k : Nat) (a0_0 : Int) (a0_1 : Int) (a0_2 : Int) (a0_3 : Int) (a0_4 : Int) (a0_5 : Int) (a0_6 : Int) (a0_7 : Int) (a0_8 : Int) (a1 : Int) (r1 : Int) (r2 : Bool) (w : World) (h : xfK.f k a0_0 a0_1 a0_2 a0_3 a0_4 a0_5 a0_6 a0_7 a0_8 a1 = some (r1, r2)) :
  Calls Try.prog 163 #[.agg #[.int .i64 a0_0, .int .i64 a0_1, .int .i64 a0_2, .int .i64 a0_3, .int .i64 a0_4, .int .i64 a0_5, .int .i64 a0_6, .int .i64 a0_7, .int .i64 a0_8], .int .i64 a1] w fun e w' => e = .returned (.tuple #[.int .i64 r1, .bool r2]) ∧ Below w.heap.size w w' := by
 have hu135 := Try.underlying135
 have HB := Aside0.mk (Below.refl w.heap.size w)
 have H : ((xdA.f k a0_2).bind fun bt149 => (some (a0_2, (bt149.1 == a1)))) = some (r1, r2) := h
 clear h;replace H := Option.bind_eq_some_iff.mp H
 obtain ⟨⟨t149, t150, t151, t152⟩, A30, H⟩ := H
 replace H : (some (a0_2, (t149 == a1))) = some (r1, r2) := H
 have A3 := Aside0.mk A30;clear A30
 simp only [Option.some.injEq, Prod.mk.injEq] at H
 obtain ⟨rfl, rfl⟩ := H
 go_enter Try.func163, Try.ntmps163
 go_wp2_with (first | ((with_reducible refine xbM (N := 2) rfl ?_); refine xbJ ?hg (N := 2) ?hd (cs := #[.int .i64 a0_0, .int .i64 a0_1, .int .i64 a0_2, .int .i64 a0_3, .int .i64 a0_4, .int .i64 a0_5, .int .i64 a0_6, .int .i64 a0_7, .int .i64 a0_8]) (t := 135) ?hr ?_; (case hd => rfl); (case hg => rfl); (case hr => first | (go_simp; done) | (go_simp; rfl)); intro gb148 hg w4 hbox hb; have n0_ := Aside0.mk (xaP (by repeat (first | (with_reducible first | exact HB.out | apply xaB | apply xaA | apply xaC) | exact HB.out)) hb); have n1_ := Aside0.mk (hbox); have n2_ := Aside0.mk ((by rw [hg]; exact (xaR (by repeat (first | (with_reducible first | exact HB.out | apply xaB | apply xaA | apply xaC) | exact HB.out))) : w.heap.size ≤ gb148)); have n3_ := Aside0.mk ((by rw [hg]; exact (xaR (by repeat (first | (with_reducible first | exact HB.out | apply xaB | apply xaA | apply xaC) | exact HB.out))) : w.heap.size ≤ gb148)); clear HB; have HB := n0_; have BK148 := n1_; have GW148 := n2_; have GE148 := n3_; clear n0_ n1_ n2_ n3_; clear hb hbox hg; have hcz5_0 : w4.cell? ⟨gb148, 0, none⟩ = some (.int .i64 a0_0) := (xaE BK148.out 0).trans rfl; have hcz5_1 : w4.cell? ⟨gb148, 1, none⟩ = some (.int .i64 a0_1) := (xaE BK148.out 1).trans rfl; have hcz5_2 : w4.cell? ⟨gb148, 2, none⟩ = some (.int .i64 a0_2) := (xaE BK148.out 2).trans rfl; have hcz5_3 : w4.cell? ⟨gb148, 3, none⟩ = some (.int .i64 a0_3) := (xaE BK148.out 3).trans rfl; have hcz5_4 : w4.cell? ⟨gb148, 4, none⟩ = some (.int .i64 a0_4) := (xaE BK148.out 4).trans rfl; have hcz5_5 : w4.cell? ⟨gb148, 5, none⟩ = some (.int .i64 a0_5) := (xaE BK148.out 5).trans rfl; have hcz5_6 : w4.cell? ⟨gb148, 6, none⟩ = some (.int .i64 a0_6) := (xaE BK148.out 6).trans rfl; have hcz5_7 : w4.cell? ⟨gb148, 7, none⟩ = some (.int .i64 a0_7) := (xaE BK148.out 7).trans rfl; have hcz5_8 : w4.cell? ⟨gb148, 8, none⟩ = some (.int .i64 a0_8) := (xaE BK148.out 8).trans rfl; have hfz5_0 := xaD BK148.out 0; have hfz5_1 := xaD BK148.out 1; have hfz5_2 := xaD BK148.out 2; have hfz5_3 := xaD BK148.out 3; have hfz5_4 := xaD BK148.out 4; have hfz5_5 := xaD BK148.out 5; have hfz5_6 := xaD BK148.out 6; have hfz5_7 := xaD BK148.out 7; have hfz5_8 := xaD BK148.out 8) | ((with_reducible refine xaQ (f := 93) rfl ?_); refine goesL_ (some 13) rfl rfl Try.func93 (by kernel_rfl) rfl #[.int .i64 a0_2] rfl (by (try simp only [List.map_toArray, List.map_cons, List.map_nil]); first | done | rfl | (simp only [List.length_drop, List.length_take]; rfl)) ?_; (with_reducible refine (xdA.calls k a0_2 t149 t150 t151 t152 _ A3.out).mono ?_); rintro e w' ⟨rfl, ⟨nd, rfl⟩⟩; refine ⟨_, rfl, ?_⟩))
 go_ret2
 exact ⟨by first | rfl | (simp [xaL, xaK] <;> rfl) | (simp [*, xaL, xaK] <;> rfl), by repeat (first | (with_reducible first | exact HB.out | apply xaB | apply xaA | apply xaC | refine xaF ?_ GE148.out) | exact HB.out)⟩
end Go.Proofs.Ytoncignjcgjhhaa.Q
namespace Go.Proofs.Ytoncignjcgjhhaa.L
open Go.RowKit Go.Proofs.YtoncignjcgjhhaaW.PrintWords Go.Proofs.YtoncignjcgjhhaaW.PrintLast Go.Proofs.YtoncignjcgjhhaaW.PrintMore
open Go.Proofs.Ytoncignjcgjhhaa.Q
variable {a0 a1 a2 a3 a4 a5 a6 a7 a8 : Int}
theorem may_single (h1 : i64 a1) (h3 : i64 a3) (h4 : i64 a4) (h5 : i64 a5) (h6 : i64 a6) (h7 : i64 a7) (h8 : i64 a8) : xeU.f 4 a1 a2 a3 a4 a5 a6 a7 a8 = some (M.may ⟨4, a1, a2, a3, a4, a5, a6, a7, a8⟩) := by
 have ho : bits .or .i64 (bits .or .i64 (bits .or .i64 (bits .or .i64 (bits .or .i64 (bits .or .i64 a1 a3) a4) a5) a6) a7) a8 = 0 ↔ (((((a1 = 0 ∧ a3 = 0) ∧ a4 = 0) ∧ a5 = 0) ∧ a6 = 0) ∧ a7 = 0) ∧ a8 = 0 := by
  rw [or0 (or_i64 _ _) h8, or0 (or_i64 _ _) h7, or0 (or_i64 _ _) h6, or0 (or_i64 _ _) h5, or0 (or_i64 _ _) h4, or0 h1 h3]
 unfold xeU.f M.may
 simp only [within, Option.bind_some, show ¬ ((4 : Int) = 1) from by decide, show ¬ ((4 : Int) = 2) from by decide, show ¬ ((4 : Int) = 3) from by decide, if_true, if_false]
 by_cases hz : (((((a1 = 0 ∧ a3 = 0) ∧ a4 = 0) ∧ a5 = 0) ∧ a6 = 0) ∧ a7 = 0) ∧ a8 = 0
 ·
  rw [if_pos (ho.2 hz)]; congr 1; rw [decide_eq_decide]; omega
 ·
  rw [if_neg (fun e => hz (ho.1 e))]; congr 1; symm; rw [decide_eq_false_iff_not]; omega
theorem civil_l1 (y d : Int) (h0 : 0 ≤ d) (h1 : d < 365 + M.lp y) : ∀ (f : Nat) (m : Int), 1 ≤ m → m ≤ M.monOf y d → M.monOf y d - m = f →
  Ev (fun k => xcG.l1 k y m (d - M.cum y m)) (y, M.monOf y d, d - M.cum y (M.monOf y d) + 1)
 | 0, m, a, b, c => by
  obtain ⟨p, q, r, s⟩ := M.xfH y d h0 h1
  have e : m = M.monOf y d := by omega
  have hc := M.xfZ y (M.monOf y d) p q
  have hg := M.xgT y (M.monOf y d)
  have hl := M.lp_01 y
  refine Ev.step (f := fun _ => some (y, M.monOf y d, d - M.cum y (M.monOf y d) + 1)) (fun k => ?_) (Ev.now _)
  rw [e]
  simp only [xcG.l1, length, Option.bind_some]
  rw [if_neg (by omega), w64 (by omega) (by omega)]
 | f + 1, m, a, b, c => by
  obtain ⟨p, q, r, s⟩ := M.xfH y d h0 h1
  have ih := civil_l1 y d h0 h1 f (m + 1) (by omega) (by omega) (by omega)
  have hc := M.xfZ y m a (by omega)
  have hg := M.xgT y m
  have hle := M.cum_le y (show 1 ≤ m + 1 by omega) (show m + 1 ≤ M.monOf y d by omega) (by omega)
  have hl := M.lp_01 y;have hml := M.xeH y m
  refine Ev.step (fun k => ?_) ih
  simp only [xcG.l1, length, Option.bind_some]
  rw [if_pos (by omega), w64 (by omega) (by omega), w64 (by omega) (by omega), show d - M.cum y m - M.mlen y m = d - M.cum y (m + 1) from by omega]
theorem civil_l0 (n : Int) (h0 : 0 ≤ n) (h1 : n ≤ 109572) : ∀ (f : Nat) (y : Int), 1900 ≤ y → y ≤ M.yearOf n → M.yearOf n - y = f →
  Ev (fun k => xcG.l0 k n y) (M.civY n, M.civM n, M.civD n)
 | 0, y, a, b, c => by
  obtain ⟨p, q, r, s⟩ := M.xdN n h0 h1
  have e : y = M.yearOf n := by omega
  have hs := M.xdQ (M.yearOf n)
  have hb := xeG (M.yearOf n) (by omega) (by omega)
  obtain ⟨p2, q2, r2, s2⟩ := M.xfH (M.yearOf n) (n - M.before (M.yearOf n)) (by omega) (by omega)
  have h := civil_l1 (M.yearOf n) (n - M.before (M.yearOf n)) (by omega) (by omega) (M.monOf (M.yearOf n) (n - M.before (M.yearOf n)) - 1).toNat 1 (by omega) p2 (by omega)
  rw [M.cum_1, Int.sub_zero] at h
  refine Ev.step (fun k => ?_) h
  rw [e]
  simp only [xcG.l0]
  rw [w64 (by omega) (by omega), before _ (by omega) (by omega), before _ (by omega) (by omega)]
  simp only [Option.bind_some]
  rw [if_neg (by omega), w64 (by omega) (by omega)]
 | f + 1, y, a, b, c => by
  obtain ⟨p, q, r, s⟩ := M.xdN n h0 h1
  have ih := civil_l0 n h0 h1 f (y + 1) (by omega) (by omega) (by omega)
  have hle := M.xeD (show y + 1 ≤ M.yearOf n by omega)
  refine Ev.step (fun k => ?_) ih
  simp only [xcG.l0]
  rw [w64 (by omega) (by omega), before _ (by omega) (by omega)]
  simp only [Option.bind_some]
  rw [if_pos (by omega)]
theorem civil (n : Int) (h0 : 0 ≤ n) (h1 : n ≤ 109572) : Ev (fun k => xcG.f k n) (M.civY n, M.civM n, M.civD n) := by
 have hy : 1900 + n / 366 ≤ M.yearOf n := by unfold M.yearOf; split <;> omega
 have h := civil_l0 n h0 h1 (M.yearOf n - (1900 + n / 366)).toNat (1900 + n / 366) (by omega) hy (by omega)
 refine Ev.congr (fun k => ?_) h
 unfold xcG.f
 rw [td h0, w64 (x := n / 366) (by omega) (by omega), w64 (by omega) (by omega)]
theorem dis (n : Int) : xgM.f n = some (decide (0 ≤ n ∧ n ≤ 109572)) := by
 unfold xgM.f
 split
 ·
  congr 1; rw [decide_eq_decide]; omega
 ·
  congr 1; symm; rw [decide_eq_false_iff_not]; omega
theorem Civil (n : Int) : Ev (fun k => xdA.f k n) (if 0 ≤ n ∧ n ≤ 109572 then (M.civY n, M.civM n, M.civD n, 0) else (0, 0, 0, 51)) := by
 by_cases h : 0 ≤ n ∧ n ≤ 109572
 ·
  rw [if_pos h]
  have hd2 := Ev.bind (f := fun _ (t : Int × Int × Int) => some (t.1, t.2.1, t.2.2, (0 : Int))) (civil n h.1 h.2) (Ev.now _)
  refine Ev.congr (fun k => ?_) hd2
  unfold xdA.f
  rw [dis]
  simp [h]
 ·
  rw [if_neg h]
  refine Ev.congr (fun k => ?_) (Ev.now _)
  unfold xdA.f
  rw [dis]
  simp only [Option.bind_some]
  rw [if_neg (by simpa using h)]
theorem day_fixed (y : Int) (h : M.may ⟨1, a1, a2, a3, a4, a5, a6, a7, a8⟩ = true) (h0 : 1900 ≤ y) (h1 : y ≤ 2199) :
  Ev (fun k => xfR.f k 1 a1 a2 a3 a4 a5 a6 a7 a8 y) (match M.rday ⟨1, a1, a2, a3, a4, a5, a6, a7, a8⟩ y with | some x => (x, true) | none => (0, false)) := by
 have hm : 1 ≤ a1 ∧ a1 ≤ 12 ∧ 1 ≤ a2 := by simp [M.may] at h; omega
 have ho := Ev.bind (f := fun _ (t : Int × Int) => some (t.1, (t.2 == 0))) (Of y a1 a2) (Ev.now _)
 unfold M.rday
 simp only [if_true]
 by_cases hd : a2 ≤ M.mlen y a1
 ·
  rw [if_pos hd]
  rw [if_pos (show M.isDate y a1 a2 from ⟨h0, h1, hm.1, hm.2.1, hm.2.2, hd⟩)] at ho
  exact ho
 ·
  rw [if_neg hd]
  rw [if_neg (show ¬ M.isDate y a1 a2 from fun e => hd e.2.2.2.2.2)] at ho
  exact ho
theorem day_nth (y : Int) (h : M.may ⟨2, a1, a2, a3, a4, a5, a6, a7, a8⟩ = true) (h0 : 1900 ≤ y) (h1 : y ≤ 2199) :
  Ev (fun k => xgG.f k 2 a1 a2 a3 a4 a5 a6 a7 a8 y) (match M.rday ⟨2, a1, a2, a3, a4, a5, a6, a7, a8⟩ y with | some x => (x, true) | none => (0, false)) := by
 have hm : 1 ≤ a1 ∧ a1 ≤ 12 ∧ 0 ≤ a4 ∧ a4 ≤ 6 ∧ 1 ≤ a3 ∧ a3 ≤ 5 := by simp [M.may] at h; omega
 have hl := M.xeH y a1
 have hdt : M.isDate y a1 1 := ⟨h0, h1, hm.1, hm.2.1, by omega, by omega⟩
 have hr := M.xfU hdt;have ho := Of y a1 1
 rw [if_pos hdt] at ho
 have e : M.rday ⟨2, a1, a2, a3, a4, a5, a6, a7, a8⟩ y = some (M.nthDay y a1 a4 a3) := rfl
 rw [e]
 refine Ev.congr (fun k => rfl) (Ev.bind (f := _) ho ?_)
 refine Ev.congr (fun k => ?_) (Ev.now _)
 rw [Length, if_pos ⟨h0, h1, hm.1, hm.2.1⟩]
 simp only [Option.bind_some]
 generalize hF : M.dayOf y a1 1 = F at *
 rw [tm (a := F) (b := 7) (by omega)]
 rw [w64 (x := a4 - F % 7) (by omega) (by omega), w64 (x := a4 - F % 7 + 7) (by omega) (by omega), tm (by omega), w64 (x := a3 - 1) (by omega) (by omega), w64 (x := 7 * (a3 - 1)) (by omega) (by omega), w64 (x := (a4 - F % 7 + 7) % 7 + 7 * (a3 - 1)) (by omega) (by omega),
  w64 (x := (a4 - F % 7 + 7) % 7 + 7 * (a3 - 1) - 7) (by omega) (by omega), w64 (x := F + ((a4 - F % 7 + 7) % 7 + 7 * (a3 - 1) - 7)) (by omega) (by omega), w64 (x := F + ((a4 - F % 7 + 7) % 7 + 7 * (a3 - 1))) (by omega) (by omega)]
 unfold M.nthDay
 simp only [hF]
 split <;> rfl
theorem day_easter (y : Int) (h : M.may ⟨3, a1, a2, a3, a4, a5, a6, a7, a8⟩ = true) (h0 : 1900 ≤ y) (h1 : y ≤ 2199) :
  xeW.f 3 a1 a2 a3 a4 a5 a6 a7 a8 y = some (match M.rday ⟨3, a1, a2, a3, a4, a5, a6, a7, a8⟩ y with | some x => (x, true) | none => (0, false)) := by
 have hm : -100 ≤ a5 ∧ a5 ≤ 100 := by simp [M.may] at h; omega
 obtain ⟨a, b, c, d⟩ := M.xfT y h0 h1
 have hr := M.xfU a
 have e : M.rday ⟨3, a1, a2, a3, a4, a5, a6, a7, a8⟩ y = some (M.xdH y + a5) := rfl
 have hr2 : 0 ≤ M.xdH y ∧ M.xdH y ≤ 109572 := ⟨hr.1, hr.2.1⟩
 rw [e]
 unfold xeW.f xfJ.f H.xgA
 rw [if_pos ⟨h0, h1⟩]
 simp only [Option.bind_some]
 rw [w64 (by omega) (by omega)]
theorem day_single (y : Int) (h : M.may ⟨4, a1, a2, a3, a4, a5, a6, a7, a8⟩ = true) :
  Ev (fun k => xfK.f k 4 a1 a2 a3 a4 a5 a6 a7 a8 y) (a2, decide (M.civY a2 = y)) := by
 have hm : 0 ≤ a2 ∧ a2 ≤ 109572 := by simp [M.may] at h; omega
 have hc := Civil a2
 rw [if_pos hm] at hc
 have := Ev.bind (f := fun _ (t : Int × Int × Int × Int) => some (a2, (t.1 == y))) hc (Ev.now _)
 refine Ev.congr (fun k => rfl) ?_
 have e : (M.civY a2 == y) = decide (M.civY a2 = y) := rfl
 rw [← e]; exact this
end Go.Proofs.Ytoncignjcgjhhaa.L
namespace Go.Proofs.Ytoncignjcgjhhaa.H
open Go.RowKit Go.Maps Go.Proofs.YtoncignjcgjhhaaW.PrintWords Go.Proofs.YtoncignjcgjhhaaW.PrintLast Go.Proofs.YtoncignjcgjhhaaW.PrintMore
open Go.Proofs.Ytoncignjcgjhhaa.Q (S63 k63 z63)
def ru (x : S63) : M.Rul := ⟨x.f0, x.f1, x.f2, x.f3, x.f4, x.f5, x.f6, x.f7, x.f8⟩
theorem kind_1 (a1 a2 a3 a4 a5 a6 a7 a8 : Int) (w : World) :
  Calls Try.prog 84 #[.agg #[.int .i64 1, .int .i64 a1, .int .i64 a2, .int .i64 a3, .int .i64 a4, .int .i64 a5, .int .i64 a6, .int .i64 a7, .int .i64 a8]] w fun e w' =>
   e = .returned (.iface 132 (.agg #[.int .i64 1, .int .i64 a1, .int .i64 a2, .int .i64 a3, .int .i64 a4, .int .i64 a5, .int .i64 a6, .int .i64 a7, .int .i64 a8])) ∧ Below w.heap.size w w' := by
 go_enter Try.func84, Try.ntmps84
 go_wp2
 go_ret
 exact ⟨rfl, xaB (Below.refl _ _) _⟩
theorem kind_2 (a1 a2 a3 a4 a5 a6 a7 a8 : Int) (w : World) :
  Calls Try.prog 84 #[.agg #[.int .i64 2, .int .i64 a1, .int .i64 a2, .int .i64 a3, .int .i64 a4, .int .i64 a5, .int .i64 a6, .int .i64 a7, .int .i64 a8]] w fun e w' =>
   e = .returned (.iface 133 (.agg #[.int .i64 2, .int .i64 a1, .int .i64 a2, .int .i64 a3, .int .i64 a4, .int .i64 a5, .int .i64 a6, .int .i64 a7, .int .i64 a8])) ∧ Below w.heap.size w w' := by
 go_enter Try.func84, Try.ntmps84
 go_wp2
 go_ret
 exact ⟨rfl, xaB (Below.refl _ _) _⟩
theorem kind_3 (a1 a2 a3 a4 a5 a6 a7 a8 : Int) (w : World) :
  Calls Try.prog 84 #[.agg #[.int .i64 3, .int .i64 a1, .int .i64 a2, .int .i64 a3, .int .i64 a4, .int .i64 a5, .int .i64 a6, .int .i64 a7, .int .i64 a8]] w fun e w' =>
   e = .returned (.iface 134 (.agg #[.int .i64 3, .int .i64 a1, .int .i64 a2, .int .i64 a3, .int .i64 a4, .int .i64 a5, .int .i64 a6, .int .i64 a7, .int .i64 a8])) ∧ Below w.heap.size w w' := by
 go_enter Try.func84, Try.ntmps84
 go_wp2
 go_ret
 exact ⟨rfl, xaB (Below.refl _ _) _⟩
theorem kind_4 (a1 a2 a3 a4 a5 a6 a7 a8 : Int) (w : World) :
  Calls Try.prog 84 #[.agg #[.int .i64 4, .int .i64 a1, .int .i64 a2, .int .i64 a3, .int .i64 a4, .int .i64 a5, .int .i64 a6, .int .i64 a7, .int .i64 a8]] w fun e w' =>
   e = .returned (.iface 135 (.agg #[.int .i64 4, .int .i64 a1, .int .i64 a2, .int .i64 a3, .int .i64 a4, .int .i64 a5, .int .i64 a6, .int .i64 a7, .int .i64 a8])) ∧ Below w.heap.size w w' := by
 go_enter Try.func84, Try.ntmps84
 go_wp2
 go_ret
 exact ⟨rfl, xaB (Below.refl _ _) _⟩
theorem kind_0 (a0 a1 a2 a3 a4 a5 a6 a7 a8 : Int) (w : World) (h1 : ¬ a0 = 1) (h2 : ¬ a0 = 2) (h3 : ¬ a0 = 3) (h4 : ¬ a0 = 4) :
  Calls Try.prog 84 #[.agg #[.int .i64 a0, .int .i64 a1, .int .i64 a2, .int .i64 a3, .int .i64 a4, .int .i64 a5, .int .i64 a6, .int .i64 a7, .int .i64 a8]] w fun e w' =>
   e = .returned .nilIface ∧ Below w.heap.size w w' := by
 have g1 : (a0 == 1) = false := by simpa using h1
 have g2 : (a0 == 2) = false := by simpa using h2
 have g3 : (a0 == 3) = false := by simpa using h3
 have g4 : (a0 == 4) = false := by simpa using h4
 go_enter Try.func84, Try.ntmps84
 go_wp2
 go_ret
 exact ⟨rfl, xaB (Below.refl _ _) _⟩
theorem may_132 (v : Array Value) (w : World) : (method 274 132 (.agg v) "tenor/cal.may").run Try.prog w = .ok (156, .agg v) w := by kernel_rfl
theorem may_133 (v : Array Value) (w : World) : (method 274 133 (.agg v) "tenor/cal.may").run Try.prog w = .ok (159, .agg v) w := by kernel_rfl
theorem may_134 (v : Array Value) (w : World) : (method 274 134 (.agg v) "tenor/cal.may").run Try.prog w = .ok (161, .agg v) w := by kernel_rfl
theorem may_135 (v : Array Value) (w : World) : (method 274 135 (.agg v) "tenor/cal.may").run Try.prog w = .ok (164, .agg v) w := by kernel_rfl
theorem day_132 (v : Array Value) (w : World) : (method 274 132 (.agg v) "tenor/cal.day").run Try.prog w = .ok (155, .agg v) w := by kernel_rfl
theorem day_133 (v : Array Value) (w : World) : (method 274 133 (.agg v) "tenor/cal.day").run Try.prog w = .ok (158, .agg v) w := by kernel_rfl
theorem day_134 (v : Array Value) (w : World) : (method 274 134 (.agg v) "tenor/cal.day").run Try.prog w = .ok (160, .agg v) w := by kernel_rfl
theorem day_135 (v : Array Value) (w : World) : (method 274 135 (.agg v) "tenor/cal.day").run Try.prog w = .ok (163, .agg v) w := by kernel_rfl
theorem xdS (a b c : Int) (r : Bool) (hr : decide (b ≤ a ∧ a ≤ c) = r) (w : World) :
  Calls Try.prog 83 #[.int .i64 a, .int .i64 b, .int .i64 c] w fun e w' => e = .returned (.bool r) ∧ Drawn0 w w' :=
 Q.xbL.calls a b c r w (by rw [L.within, hr])
theorem mayC_1 (a1 a2 a3 a4 a5 a6 a7 a8 : Int) (h3 : L.i64 a3) (h4 : L.i64 a4) (h5 : L.i64 a5) (b : Bool) (hb : M.may ⟨1, a1, a2, a3, a4, a5, a6, a7, a8⟩ = b) (w : World) :
  Calls Try.prog 156 #[.agg #[.int .i64 1, .int .i64 a1, .int .i64 a2, .int .i64 a3, .int .i64 a4, .int .i64 a5, .int .i64 a6, .int .i64 a7, .int .i64 a8]] w fun e w' => e = .returned (.bool b) ∧ Below w.heap.size w w' := by
 subst hb
 exact Q.xcT.calls 1 1 a1 a2 a3 a4 a5 a6 a7 a8 _ w (L.may_fixed h3 h4 h5 0)
theorem mayC_2 (a1 a2 a3 a4 a5 a6 a7 a8 : Int) (h2 : L.i64 a2) (h5 : L.i64 a5) (b : Bool) (hb : M.may ⟨2, a1, a2, a3, a4, a5, a6, a7, a8⟩ = b) (w : World) :
  Calls Try.prog 159 #[.agg #[.int .i64 2, .int .i64 a1, .int .i64 a2, .int .i64 a3, .int .i64 a4, .int .i64 a5, .int .i64 a6, .int .i64 a7, .int .i64 a8]] w fun e w' => e = .returned (.bool b) ∧ Below w.heap.size w w' := by
 subst hb
 exact Q.xfV.calls 2 a1 a2 a3 a4 a5 a6 a7 a8 _ w (L.may_nth h2 h5)
theorem mayC_3 (a1 a2 a3 a4 a5 a6 a7 a8 : Int) (h1 : L.i64 a1) (h2 : L.i64 a2) (h3 : L.i64 a3) (h4 : L.i64 a4) (b : Bool) (hb : M.may ⟨3, a1, a2, a3, a4, a5, a6, a7, a8⟩ = b) (w : World) :
  Calls Try.prog 161 #[.agg #[.int .i64 3, .int .i64 a1, .int .i64 a2, .int .i64 a3, .int .i64 a4, .int .i64 a5, .int .i64 a6, .int .i64 a7, .int .i64 a8]] w fun e w' => e = .returned (.bool b) ∧ Below w.heap.size w w' := by
 subst hb
 exact Q.xeV.calls 3 a1 a2 a3 a4 a5 a6 a7 a8 _ w (L.may_easter h1 h2 h3 h4)
theorem mayC_4 (a1 a2 a3 a4 a5 a6 a7 a8 : Int) (h1 : L.i64 a1) (h3 : L.i64 a3) (h4 : L.i64 a4) (h5 : L.i64 a5) (h6 : L.i64 a6) (h7 : L.i64 a7) (h8 : L.i64 a8) (b : Bool) (hb : M.may ⟨4, a1, a2, a3, a4, a5, a6, a7, a8⟩ = b) (w : World) :
  Calls Try.prog 164 #[.agg #[.int .i64 4, .int .i64 a1, .int .i64 a2, .int .i64 a3, .int .i64 a4, .int .i64 a5, .int .i64 a6, .int .i64 a7, .int .i64 a8]] w fun e w' => e = .returned (.bool b) ∧ Below w.heap.size w w' := by
 subst hb
 exact Q.xeU.calls 4 a1 a2 a3 a4 a5 a6 a7 a8 _ w (L.may_single h1 h3 h4 h5 h6 h7 h8)
def wfS (x : S63) : Prop := L.i64 x.f0 ∧ L.i64 x.f1 ∧ L.i64 x.f2 ∧ L.i64 x.f3 ∧ L.i64 x.f4 ∧ L.i64 x.f5 ∧ L.i64 x.f6 ∧ L.i64 x.f7 ∧ L.i64 x.f8
theorem xeK {k k' : IntKind} {a b : Int} {q : Int × Int} (h : (a, b) = q) : Ending.returned (.tuple #[.int k a, .int k' b]) = .returned (.tuple #[.int k q.1, .int k' q.2]) := by rw [← h]
theorem chk_at {we : Int} {l : List M.Rul} (h : l.length ≤ 64) (h0 : 0 ≤ we) (h1 : we ≤ 126) : M.chkAt l 0 = M.chk we l := by
  unfold M.chk; rw [if_neg (by omega), if_pos ⟨h0, h1⟩]
theorem chkAt_step {l : List M.Rul} {i : Nat} (hi : i < l.length) {ans : Int × Int} (h : M.chkAt (l.drop i) i = ans) :
  (M.may l[i] = true → M.chkAt (l.drop (i + 1)) ((i + 1 : Nat) : Int) = ans) ∧ (M.may l[i] = false → (60, (i : Int)) = ans) := by
 rw [List.drop_eq_getElem_cons hi] at h
 unfold M.chkAt at h
 constructor
 ·
  intro hm; rw [if_pos hm] at h; push_cast; exact h
 ·
  intro hm; rw [if_neg (by simp [hm])] at h; exact h
theorem chkAt_end {l : List M.Rul} {i : Nat} (hi : i = l.length) {ans : Int × Int} (h : M.chkAt (l.drop i) i = ans) : (0, 0) = ans := by
  subst hi; rw [List.drop_length] at h; exact h
theorem xeM {w w1 : World} (hb : Below w.heap.size w w1) {a : Addr} {v : Value} (h : w.cell? a = some v) : w1.cell? a = some v := (hb.cell (World.block_lt_of_cell? w _ h)).trans h
theorem rule_at {w : World} {A : Option Addr} {l : List S63} (h : Kd.C k63 w A l.length l) (i : Nat) (hi : i < l.length) (wr : World) (hb : Below w.heap.size w wr) : ∃ ad a0 a1 a2 a3 a4 a5 a6 a7 a8, A = some ad ∧ l[i] = ⟨a0, a1, a2, a3, a4, a5, a6, a7, a8⟩ ∧
  wr.cell? (ad.add (i * 9)) = some (.int .i64 a0) ∧ wr.cell? ⟨(ad.add (i * 9)).block, (ad.add (i * 9)).off + 1, none⟩ = some (.int .i64 a1) ∧ wr.cell? ⟨(ad.add (i * 9)).block, (ad.add (i * 9)).off + 2, none⟩ = some (.int .i64 a2) ∧
  wr.cell? ⟨(ad.add (i * 9)).block, (ad.add (i * 9)).off + 3, none⟩ = some (.int .i64 a3) ∧ wr.cell? ⟨(ad.add (i * 9)).block, (ad.add (i * 9)).off + 4, none⟩ = some (.int .i64 a4) ∧ wr.cell? ⟨(ad.add (i * 9)).block, (ad.add (i * 9)).off + 5, none⟩ = some (.int .i64 a5) ∧
  wr.cell? ⟨(ad.add (i * 9)).block, (ad.add (i * 9)).off + 6, none⟩ = some (.int .i64 a6) ∧ wr.cell? ⟨(ad.add (i * 9)).block, (ad.add (i * 9)).off + 7, none⟩ = some (.int .i64 a7) ∧ wr.cell? ⟨(ad.add (i * 9)).block, (ad.add (i * 9)).off + 8, none⟩ = some (.int .i64 a8) := by
 obtain ⟨ad, hA, x0, x1, x2, x3, x4, x5, x6, x7, x8⟩ := Q.at_T63 h (i : Int) (by omega) (by omega)
 have e : Q.rd_T63 l (i : Int) = l[i] := by simp [Q.rd_T63, hi]
 rw [e, Int.toNat_natCast] at x0 x1 x2 x3 x4 x5 x6 x7 x8
 exact ⟨ad, _, _, _, _, _, _, _, _, _, hA, rfl, xeM hb x0, xeM hb x1, xeM hb x2, xeM hb x3, xeM hb x4, xeM hb x5, xeM hb x6, xeM hb x7, xeM hb x8⟩
set_option maxHeartbeats 2000000 in
set_option maxRecDepth 100000 in
theorem check_loop (we : Int) (A : Option Addr) (c : Nat) (l : List S63) (w : World) (hr : Kd.C k63 w A l.length l) (hw : ∀ x ∈ l, wfS x) (h64 : l.length ≤ 64) (h0 : 0 ≤ we) (h1 : we ≤ 126) :
  Calls Try.prog 44 #[.agg #[.int .i64 we, .slice A l.length c]] w fun e w' => e = .returned (.tuple #[.int .i64 (M.chk we (l.map ru)).1, .int .i64 (M.chk we (l.map ru)).2]) ∧ Below w.heap.size w w' := by
 have HR := Aside0.mk hr; clear hr
 have HW := Aside0.mk hw; clear hw
 have hlen : decide (64 < l.length) = false := by simpa using h64
 have hst := Aside0.mk (chk_at (l := l.map ru) (by simpa using h64) h0 h1)
 go_enter Try.func44, Try.ntmps44
 have hwt : decide (0 ≤ we ∧ we ≤ 126) = true := by simp; omega
 go_wp2_with (go_at_call 83; refine (xdS _ _ _ _ hwt _).mono ?_; rintro e w' ⟨rfl, ⟨n0, rfl⟩⟩)
 go_loopg [18] (l.length) (fun kq v4 w' => ∃ i : Nat, i ≤ l.length ∧ kq + i = l.length ∧ v4 = .int .i64 i ∧ Aside0 (M.chkAt ((l.map ru).drop i) i = M.chk we (l.map ru)) ∧ Aside0 (Below w.heap.size w w'))
 case atStart => exact ⟨0, by omega, by omega, rfl, ⟨by simpa using hst.out⟩, ⟨by repeat (first | exact Below.refl _ _ | apply xaA | apply xaB)⟩⟩
 case round =>
  obtain ⟨i, hi, hk, rfl, HA, HB⟩ := hrel
  by_cases hlt : i < l.length
  ·
   obtain ⟨ad, a0, a1, a2, a3, a4, a5, a6, a7, a8, rfl, hx, x0, x1, x2, x3, x4, x5, x6, x7, x8⟩ := rule_at HR.out i hlt wr HB.out
   have hwx := HW.out l[i] (List.getElem_mem hlt)
   have hs := chkAt_step (l := l.map ru) (i := i) (by simpa using hlt) HA.out
   rw [List.getElem_map, hx] at hs
   rw [hx] at hwx
   obtain ⟨w0, w1, w2, w3, w4, w5, w6, w7, w8⟩ := hwx
   simp only [ru] at hs w0 w1 w2 w3 w4 w5 w6 w7 w8
   clear hx
   have HW0 := Aside0.mk w0; have HW1 := Aside0.mk w1; have HW2 := Aside0.mk w2; have HW3 := Aside0.mk w3; have HW4 := Aside0.mk w4; have HW5 := Aside0.mk w5; have HW6 := Aside0.mk w6; have HW7 := Aside0.mk w7; have HW8 := Aside0.mk w8
   clear w0 w1 w2 w3 w4 w5 w6 w7 w8
   have HS := Aside0.mk hs; clear hs
   by_cases k1 : a0 = 1
   ·
    subst k1;have hmeth := may_132
    cases hm : M.may ⟨1, a1, a2, a3, a4, a5, a6, a7, a8⟩ with
    | true =>
     have HT := Aside0.mk (HS.out.1 hm)
     have HM := Aside0.mk hm; clear hm
     go_wp2_with fail
     refine (kind_1 _ _ _ _ _ _ _ _ _).mono ?_; rintro e w1 ⟨rfl, hb1⟩
     have HB1 := Aside0.mk (xdF (by repeat (first | exact HB.out | apply xaA | apply xaB)) (by have := HB.out.size; simp; omega) hb1 : Below w.heap.size w w1); clear hb1
     go_wp2_with fail
     refine (mayC_1 _ _ _ _ _ _ _ _ HW3.out HW4.out HW5.out _ HM.out _).mono ?_; rintro e w2 ⟨rfl, hb2⟩
     have HB2 := Aside0.mk (xdF HB1.out HB1.out.size hb2 : Below w.heap.size w w2); clear hb2
     go_wp2_with fail
     go_roundg (gk - 1)
     case measure => omega
     case rel => exact ⟨i + 1, by omega, by omega, by go_num, HT, ⟨by repeat (first | exact HB2.out | apply xaA | apply xaB)⟩⟩
    | false =>
     have HT := Aside0.mk (HS.out.2 hm)
     have HM := Aside0.mk hm; clear hm
     go_wp2_with fail
     refine (kind_1 _ _ _ _ _ _ _ _ _).mono ?_; rintro e w1 ⟨rfl, hb1⟩
     have HB1 := Aside0.mk (xdF (by repeat (first | exact HB.out | apply xaA | apply xaB)) (by have := HB.out.size; simp; omega) hb1 : Below w.heap.size w w1); clear hb1
     go_wp2_with fail
     refine (mayC_1 _ _ _ _ _ _ _ _ HW3.out HW4.out HW5.out _ HM.out _).mono ?_; rintro e w2 ⟨rfl, hb2⟩
     have HB2 := Aside0.mk (xdF HB1.out HB1.out.size hb2 : Below w.heap.size w w2); clear hb2
     go_wp2_with fail
     go_ret2
     exact ⟨xeK HT.out, by repeat (first | exact HB2.out | apply xaA | apply xaB)⟩
   ·
    by_cases k2 : a0 = 2
    ·
     subst k2;have hmeth := may_133
     cases hm : M.may ⟨2, a1, a2, a3, a4, a5, a6, a7, a8⟩ with
     | true =>
      have HT := Aside0.mk (HS.out.1 hm)
      have HM := Aside0.mk hm; clear hm
      go_wp2_with fail
      refine (kind_2 _ _ _ _ _ _ _ _ _).mono ?_; rintro e w1 ⟨rfl, hb1⟩
      have HB1 := Aside0.mk (xdF (by repeat (first | exact HB.out | apply xaA | apply xaB)) (by have := HB.out.size; simp; omega) hb1 : Below w.heap.size w w1); clear hb1
      go_wp2_with fail
      refine (mayC_2 _ _ _ _ _ _ _ _ HW2.out HW5.out _ HM.out _).mono ?_; rintro e w2 ⟨rfl, hb2⟩
      have HB2 := Aside0.mk (xdF HB1.out HB1.out.size hb2 : Below w.heap.size w w2); clear hb2
      go_wp2_with fail
      go_roundg (gk - 1)
      case measure => omega
      case rel => exact ⟨i + 1, by omega, by omega, by go_num, HT, ⟨by repeat (first | exact HB2.out | apply xaA | apply xaB)⟩⟩
     | false =>
      have HT := Aside0.mk (HS.out.2 hm)
      have HM := Aside0.mk hm; clear hm
      go_wp2_with fail
      refine (kind_2 _ _ _ _ _ _ _ _ _).mono ?_; rintro e w1 ⟨rfl, hb1⟩
      have HB1 := Aside0.mk (xdF (by repeat (first | exact HB.out | apply xaA | apply xaB)) (by have := HB.out.size; simp; omega) hb1 : Below w.heap.size w w1); clear hb1
      go_wp2_with fail
      refine (mayC_2 _ _ _ _ _ _ _ _ HW2.out HW5.out _ HM.out _).mono ?_; rintro e w2 ⟨rfl, hb2⟩
      have HB2 := Aside0.mk (xdF HB1.out HB1.out.size hb2 : Below w.heap.size w w2); clear hb2
      go_wp2_with fail
      go_ret2
      exact ⟨xeK HT.out, by repeat (first | exact HB2.out | apply xaA | apply xaB)⟩
    ·
     by_cases k3 : a0 = 3
     ·
      subst k3;have hmeth := may_134
      cases hm : M.may ⟨3, a1, a2, a3, a4, a5, a6, a7, a8⟩ with
      | true =>
       have HT := Aside0.mk (HS.out.1 hm)
       have HM := Aside0.mk hm; clear hm
       go_wp2_with fail
       refine (kind_3 _ _ _ _ _ _ _ _ _).mono ?_; rintro e w1 ⟨rfl, hb1⟩
       have HB1 := Aside0.mk (xdF (by repeat (first | exact HB.out | apply xaA | apply xaB)) (by have := HB.out.size; simp; omega) hb1 : Below w.heap.size w w1); clear hb1
       go_wp2_with fail
       refine (mayC_3 _ _ _ _ _ _ _ _ HW1.out HW2.out HW3.out HW4.out _ HM.out _).mono ?_; rintro e w2 ⟨rfl, hb2⟩
       have HB2 := Aside0.mk (xdF HB1.out HB1.out.size hb2 : Below w.heap.size w w2); clear hb2
       go_wp2_with fail
       go_roundg (gk - 1)
       case measure => omega
       case rel => exact ⟨i + 1, by omega, by omega, by go_num, HT, ⟨by repeat (first | exact HB2.out | apply xaA | apply xaB)⟩⟩
      | false =>
       have HT := Aside0.mk (HS.out.2 hm)
       have HM := Aside0.mk hm; clear hm
       go_wp2_with fail
       refine (kind_3 _ _ _ _ _ _ _ _ _).mono ?_; rintro e w1 ⟨rfl, hb1⟩
       have HB1 := Aside0.mk (xdF (by repeat (first | exact HB.out | apply xaA | apply xaB)) (by have := HB.out.size; simp; omega) hb1 : Below w.heap.size w w1); clear hb1
       go_wp2_with fail
       refine (mayC_3 _ _ _ _ _ _ _ _ HW1.out HW2.out HW3.out HW4.out _ HM.out _).mono ?_; rintro e w2 ⟨rfl, hb2⟩
       have HB2 := Aside0.mk (xdF HB1.out HB1.out.size hb2 : Below w.heap.size w w2); clear hb2
       go_wp2_with fail
       go_ret2
       exact ⟨xeK HT.out, by repeat (first | exact HB2.out | apply xaA | apply xaB)⟩
     ·
      by_cases k4 : a0 = 4
      ·
       subst k4;have hmeth := may_135
       cases hm : M.may ⟨4, a1, a2, a3, a4, a5, a6, a7, a8⟩ with
       | true =>
        have HT := Aside0.mk (HS.out.1 hm)
        have HM := Aside0.mk hm; clear hm
        go_wp2_with fail
        refine (kind_4 _ _ _ _ _ _ _ _ _).mono ?_; rintro e w1 ⟨rfl, hb1⟩
        have HB1 := Aside0.mk (xdF (by repeat (first | exact HB.out | apply xaA | apply xaB)) (by have := HB.out.size; simp; omega) hb1 : Below w.heap.size w w1); clear hb1
        go_wp2_with fail
        refine (mayC_4 _ _ _ _ _ _ _ _ HW1.out HW3.out HW4.out HW5.out HW6.out HW7.out HW8.out _ HM.out _).mono ?_; rintro e w2 ⟨rfl, hb2⟩
        have HB2 := Aside0.mk (xdF HB1.out HB1.out.size hb2 : Below w.heap.size w w2); clear hb2
        go_wp2_with fail
        go_roundg (gk - 1)
        case measure => omega
        case rel => exact ⟨i + 1, by omega, by omega, by go_num, HT, ⟨by repeat (first | exact HB2.out | apply xaA | apply xaB)⟩⟩
       | false =>
        have HT := Aside0.mk (HS.out.2 hm)
        have HM := Aside0.mk hm; clear hm
        go_wp2_with fail
        refine (kind_4 _ _ _ _ _ _ _ _ _).mono ?_; rintro e w1 ⟨rfl, hb1⟩
        have HB1 := Aside0.mk (xdF (by repeat (first | exact HB.out | apply xaA | apply xaB)) (by have := HB.out.size; simp; omega) hb1 : Below w.heap.size w w1); clear hb1
        go_wp2_with fail
        refine (mayC_4 _ _ _ _ _ _ _ _ HW1.out HW3.out HW4.out HW5.out HW6.out HW7.out HW8.out _ HM.out _).mono ?_; rintro e w2 ⟨rfl, hb2⟩
        have HB2 := Aside0.mk (xdF HB1.out HB1.out.size hb2 : Below w.heap.size w w2); clear hb2
        go_wp2_with fail
        go_ret2
        exact ⟨xeK HT.out, by repeat (first | exact HB2.out | apply xaA | apply xaB)⟩
      ·
       have hm : M.may ⟨a0, a1, a2, a3, a4, a5, a6, a7, a8⟩ = false := by unfold M.may; simp only; rw [if_neg k1, if_neg k2, if_neg k3, if_neg k4]
       have HT := Aside0.mk (HS.out.2 hm); clear hm
       go_wp2_with fail
       refine (kind_0 _ _ _ _ _ _ _ _ _ _ k1 k2 k3 k4).mono ?_; rintro e w1 ⟨rfl, hb1⟩
       have HB1 := Aside0.mk (xdF (by repeat (first | exact HB.out | apply xaA | apply xaB)) (by have := HB.out.size; simp; omega) hb1 : Below w.heap.size w w1); clear hb1
       go_wp2_with fail
       go_ret2
       exact ⟨xeK HT.out, by repeat (first | exact HB1.out | apply xaA | apply xaB)⟩
  ·
   have e : i = l.length := by omega
   have HE := Aside0.mk (chkAt_end (by simpa using e) HA.out)
   have hge : decide ((i : Int) < (l.length : Int)) = false := by simp; omega
   have hge2 : decide (i < l.length) = false := by simp; omega
   clear e
   go_wp2_with fail
   go_ret2
   exact ⟨xeK HE.out, by repeat (first | exact HB.out | apply xaA | apply xaB)⟩
theorem chk_long {we : Int} {l : List M.Rul} (h : 64 < l.length) : (2, 0) = M.chk we l := by unfold M.chk; rw [if_pos h]
theorem chk_end {we : Int} {l : List M.Rul} (h : l.length ≤ 64) (hw : ¬ (0 ≤ we ∧ we ≤ 126)) : (60, -1) = M.chk we l := by unfold M.chk; rw [if_neg (by omega), if_neg hw]
set_option maxHeartbeats 1000000 in
set_option maxRecDepth 100000 in
theorem xgU (we : Int) (A : Option Addr) (c : Nat) (l : List S63) (w : World) (hr : Kd.C k63 w A l.length l) (hw : ∀ x ∈ l, wfS x) :
  Calls Try.prog 44 #[.agg #[.int .i64 we, .slice A l.length c]] w fun e w' => e = .returned (.tuple #[.int .i64 (M.chk we (l.map ru)).1, .int .i64 (M.chk we (l.map ru)).2]) ∧ Below w.heap.size w w' := by
 by_cases h64 : 64 < l.length
 ·
  have hlen : decide (64 < l.length) = true := by simpa using h64
  have hlen2 : decide (64 < (l.length : Int)) = true := by simp; omega
  have HT := Aside0.mk (chk_long (we := we) (l := l.map ru) (by simpa using h64))
  clear hr hw h64
  go_enter Try.func44, Try.ntmps44
  go_wp2
  go_ret2
  exact ⟨xeK HT.out, by repeat (first | exact Below.refl _ _ | apply xaA | apply xaB)⟩
 ·
  by_cases hwe : 0 ≤ we ∧ we ≤ 126
  ·
   exact check_loop we A c l w hr hw (by omega) hwe.1 hwe.2
  ·
   have hlen : decide (64 < l.length) = false := by simpa using h64
   have hlen2 : decide (64 < (l.length : Int)) = false := by simp; omega
   have HT := Aside0.mk (chk_end (we := we) (l := l.map ru) (by simpa using h64) hwe)
   have hwt : decide (0 ≤ we ∧ we ≤ 126) = false := by simpa using hwe
   clear hr hw h64 hwe
   go_enter Try.func44, Try.ntmps44
   go_wp2_with (go_at_call 83; refine (xdS _ _ _ _ hwt _).mono ?_; rintro e w' ⟨rfl, ⟨n0, rfl⟩⟩)
   go_ret2
   exact ⟨xeK HT.out, by repeat (first | exact Below.refl _ _ | apply xaA | apply xaB)⟩
end Go.Proofs.Ytoncignjcgjhhaa.H
namespace Go.Proofs.Ytoncignjcgjhhaa.Q
instance i64Dec (x : Int) : Decidable (L.i64 x) := inferInstanceAs (Decidable (-9223372036854775808 ≤ x ∧ x ≤ 9223372036854775807))
instance wfSDec (x : S63) : Decidable (H.wfS x) := inferInstanceAs (Decidable (L.i64 x.f0 ∧ L.i64 x.f1 ∧ L.i64 x.f2 ∧ L.i64 x.f3 ∧ L.i64 x.f4 ∧ L.i64 x.f5 ∧ L.i64 x.f6 ∧ L.i64 x.f7 ∧ L.i64 x.f8))
def wfL (l : List S63) : Prop := l.all (fun x => decide (H.wfS x)) = true
instance wfLDec (l : List S63) : Decidable (wfL l) := inferInstanceAs (Decidable (l.all (fun x => decide (H.wfS x)) = true))
theorem wfL_mem {l : List S63} (h : wfL l) : ∀ x ∈ l, H.wfS x := fun x hx => of_decide_eq_true (List.all_eq_true.1 h x hx)
theorem wfL_of {l : List S63} (h : ∀ x ∈ l, H.wfS x) : wfL l := List.all_eq_true.2 fun x hx => decide_eq_true (h x hx)
end Go.Proofs.Ytoncignjcgjhhaa.Q
namespace Go.Proofs.Ytoncignjcgjhhaa.O
open Go.ChangeShapes Go.WideShapes Go.ChangeAt Go.RowKit Go.Deep Go.Joins
open Go.Proofs.YtoncignjcgjhhaaW.PrintWords
open Go.Proofs.Ytoncignjcgjhhaa.Q (S63 k63 k63_mk wfL wfL_of)
theorem i64_of {a : Int} (h : (Lit.int .i64 a).wf = true) : L.i64 a := by
 have hmin : IntKind.i64.min = -9223372036854775808 := rfl
 have hmax : IntKind.i64.max = 9223372036854775807 := rfl
 simp only [Lit.wf, Bool.and_eq_true, decide_eq_true_eq] at h
 unfold L.i64; omega
variable {K : Type} {enc : TypeId × Value → K} {W : World}
set_option maxRecDepth 100000 in
theorem rule_cells {n : Nat} {cs : List Value} {x : DataW K × List MemPlace} (h : DataW.trod enc Try.prog W 0 (fun _ => true) true n 63 cs = some x) (hl : cs.length = 9) :
  ∃ e : S63, H.wfS e ∧ cs = [.int .i64 e.f0, .int .i64 e.f1, .int .i64 e.f2, .int .i64 e.f3, .int .i64 e.f4, .int .i64 e.f5, .int .i64 e.f6, .int .i64 e.f7, .int .i64 e.f8] := by
 obtain ⟨ys, n', _, _, _, hyl, hf⟩ := DataW.trod_struct Try.underlying63 h
 have key : ∀ (j : Nat) (f : Field), j < 9 → (match Try.prog.underlying 63 with | some (.struct fs) => fs[j]? | _ => none) = some f → f.type = 3 → ∃ a, cs[j]? = some (.int .i64 a) ∧ (Lit.int .i64 a).wf = true := by
  intro j f hj hfj ht
  rw [Try.underlying63] at hfj
  obtain ⟨ho, hk⟩ := hone_of (P := Try.prog) (by kernel_rfl) j f hfj
  have h1 := hf j f hfj
  rw [ho, hk, ht] at h1
  have e1 : (cs.drop j).take 1 = [cs[j]'(by omega)] := by rw [List.drop_eq_getElem_cons (by omega)]; rfl
  rw [e1] at h1
  have hy : ys[j]? = some (ys[j]'(by rw [hyl]; exact (Array.getElem?_eq_some_iff.1 hfj).1)) := List.getElem?_eq_getElem _
  obtain ⟨a, e0, _, wa⟩ := DataW.trod_int Try.underlying3 (h1.trans hy)
  refine ⟨a, ?_, wa⟩
  rw [List.getElem?_eq_getElem (by omega)]
  exact congrArg some (List.cons.inj e0).1
 obtain ⟨a0, e0, w0⟩ := key 0 _ (by omega) (by rw [Try.underlying63]; rfl) rfl
 obtain ⟨a1, e1, w1⟩ := key 1 _ (by omega) (by rw [Try.underlying63]; rfl) rfl
 obtain ⟨a2, e2, w2⟩ := key 2 _ (by omega) (by rw [Try.underlying63]; rfl) rfl
 obtain ⟨a3, e3, w3⟩ := key 3 _ (by omega) (by rw [Try.underlying63]; rfl) rfl
 obtain ⟨a4, e4, w4⟩ := key 4 _ (by omega) (by rw [Try.underlying63]; rfl) rfl
 obtain ⟨a5, e5, w5⟩ := key 5 _ (by omega) (by rw [Try.underlying63]; rfl) rfl
 obtain ⟨a6, e6, w6⟩ := key 6 _ (by omega) (by rw [Try.underlying63]; rfl) rfl
 obtain ⟨a7, e7, w7⟩ := key 7 _ (by omega) (by rw [Try.underlying63]; rfl) rfl
 obtain ⟨a8, e8, w8⟩ := key 8 _ (by omega) (by rw [Try.underlying63]; rfl) rfl
 refine ⟨⟨a0, a1, a2, a3, a4, a5, a6, a7, a8⟩, ⟨i64_of w0, i64_of w1, i64_of w2, i64_of w3, i64_of w4, i64_of w5, i64_of w6, i64_of w7, i64_of w8⟩, ?_⟩
 match cs, hl with
 | [c0, c1, c2, c3, c4, c5, c6, c7, c8], _ =>
  simp only [List.getElem?_cons_zero, List.getElem?_cons_succ, Option.some.injEq] at e0 e1 e2 e3 e4 e5 e6 e7 e8
  subst e0 e1 e2 e3 e4 e5 e6 e7 e8
  rfl
theorem cells63 : Try.prog.cellsOf 63 = 9 := by kernel_rfl
theorem cells24 : Try.prog.cellsOf 24 = 2 := by kernel_rfl
set_option maxRecDepth 100000 in
theorem rules_open {n : Nat} {v : Value} {x : DataW K × List MemPlace} (h : DataW.trod enc Try.prog W 0 (fun _ => true) true n 22 [v] = some x) :
  ∃ (A : Option Addr) (c : Nat) (l : List S63), v = .slice A l.length c ∧ l.length ≤ c ∧ Kd.C k63 W A l.length l ∧ wfL l := by
 rcases open_slice Try.underlying22 h with ⟨hcs, _⟩ | ⟨a, len, cap, m, n', D, Pl, hcs, _, hl, hm, hmm, _, hel⟩
 ·
  injection hcs with hcs
  exact ⟨none, 0, [], hcs, Nat.le_refl _, ⟨rfl, by simp, fun h => absurd h (by simp)⟩, wfL_of (by simp)⟩
 ·
  injection hcs with hcs
  rw [if_pos rfl] at hmm
  subst hmm
  have key : ∀ i, i < len → ∃ e : S63, H.wfS e ∧ ∀ j u, [Value.int .i64 e.f0, .int .i64 e.f1, .int .i64 e.f2, .int .i64 e.f3, .int .i64 e.f4, .int .i64 e.f5, .int .i64 e.f6, .int .i64 e.f7, .int .i64 e.f8][j]? = some u → W.cell? (a.add (i * 9 + j)) = some u := by
   intro i hi
   obtain ⟨cs', hc, ht⟩ := hel i (by omega)
   rw [cells63] at hc
   obtain ⟨_, hcl, hat⟩ := World.cells?_some hc
   obtain ⟨e, hw, he⟩ := rule_cells ht hcl
   refine ⟨e, hw, fun j u hj => ?_⟩
   rw [← he] at hj
   have hjl : j < 9 := by have := (List.getElem?_eq_some_iff.1 hj).1; omega
   have hcell := hat j hjl
   rw [← Go.Deep.add_add, hcell, hj]
  let g : Nat → S63 := fun i => if hi : i < len then Classical.choose (key i hi) else Q.z63
  have hg : ∀ i (hi : i < len), g i = Classical.choose (key i hi) := fun i hi => dif_pos hi
  have hlen : ((List.range len).map g).length = len := by simp
  have hmax : maxLen = 9223372036854775807 := rfl
  refine ⟨some a, m, (List.range len).map g, by rw [hlen]; exact hcs, by rw [hlen]; exact hl, ⟨rfl, by rw [hlen]; omega, fun _ => ⟨a, rfl, fun j p hp => ?_⟩⟩, wfL_of fun x hx => ?_⟩
  ·
   have hj : j < len := by have := (List.getElem?_eq_some_iff.1 hp).1; rw [hlen] at this; exact this
   have hp' : g j = p := by
    have := hp
    rw [List.getElem?_map, List.getElem?_range hj] at this
    exact Option.some.inj this
   have hs := Classical.choose_spec (key j hj)
   rw [← hg j hj, hp'] at hs
   exact ⟨_, rfl, k63_mk W p, fun i u hu => hs.2 i u hu⟩
  ·
   obtain ⟨i, hi, rfl⟩ := List.mem_map.1 hx
   have hi := List.mem_range.1 hi
   rw [hg i hi]
   exact (Classical.choose_spec (key i hi)).1
set_option maxRecDepth 100000 in
theorem cal_open {r : Reach} {b0 : Nat} {v : Value} {d : DataW K} {p : List MemPlace} (hv : Value.okWide Try.prog W r b0 24 v) (h : DataW.Trod enc Try.prog W 0 (fun _ => true) true 24 v d p) :
  ∃ (we : Int) (A : Option Addr) (c : Nat) (l : List S63), v = .agg #[.int .i64 we, .slice A l.length c] ∧ l.length ≤ c ∧ Kd.C k63 W A l.length l ∧ wfL l ∧ L.i64 we := by
 obtain ⟨c0, c1, y0, y1, m, rfl, _, _, hy0, hy1⟩ := open_agg2 Try.underlying24 (by kernel_rfl) cells24 hv h
 obtain ⟨a, e0, _, wa⟩ := DataW.trod_int Try.underlying3 hy0
 obtain rfl := (List.cons.inj e0).1
 obtain ⟨A, c, l, rfl, hc, hk, hw⟩ := rules_open hy1
 exact ⟨a, A, c, l, rfl, hc, hk, hw, i64_of wa⟩
end Go.Proofs.Ytoncignjcgjhhaa.O
namespace Go.Proofs.Ytoncignjcgjhhaa.Q
open Go.RowKit Go.Proofs.YtoncignjcgjhhaaW.PrintWords Go.Proofs.YtoncignjcgjhhaaW.PrintLast Go.Proofs.YtoncignjcgjhhaaW.PrintMore
attribute [local go_sem] xcC xcB xcR xcQ xbX xbW xcF xcE   -- for this text's walks alone
def xdG.f (a0 : Int) (a1 : Int) (a2 : Int) : Option (Bool) := if a0 ≥ a1 then (some (decide (a0 ≤ a2))) else (some false)
set_option maxHeartbeats 8000000 in
set_option maxRecDepth 100000 in
theorem xdG.calls (a0 : Int) (a1 : Int) (a2 : Int) (r : Bool) (w : World) (h : xdG.f a0 a1 a2 = some r) :
  Calls Try.prog 79 #[.int .i64 a0, .int .i64 a1, .int .i64 a2] w fun e w' => e = .returned (.bool r) ∧ Drawn0 w w' := by
 have H : (if a0 ≥ a1 then (some (decide (a0 ≤ a2))) else (some false)) = some r := h
 clear h
 by_cases c4 : a0 ≥ a1
 ·
  rw [if_pos c4] at H
  have c4b0 : decide (a1 ≤ a0) = true := decide_eq_true c4
  clear c4
  obtain rfl := Option.some.inj H
  go_enter Try.func79, Try.ntmps79
  go_wp2
  go_ret
  exact ⟨by first | rfl | (simp; done) | (simp [*]; done), by repeat (first | exact Drawn0.refl _ | apply Drawn0.step)⟩
 ·
  rw [if_neg c4] at H
  have c4b0 : decide (a1 ≤ a0) = false := decide_eq_false c4
  clear c4
  obtain rfl := Option.some.inj H
  go_enter Try.func79, Try.ntmps79
  go_wp2
  go_ret
  exact ⟨by first | rfl | (simp; done) | (simp [*]; done), by repeat (first | exact Drawn0.refl _ | apply Drawn0.step)⟩
end Go.Proofs.Ytoncignjcgjhhaa.Q
namespace Go.Proofs.Ytoncignjcgjhhaa.Q
open Go.RowKit Go.Proofs.YtoncignjcgjhhaaW.PrintWords Go.Proofs.YtoncignjcgjhhaaW.PrintLast Go.Proofs.YtoncignjcgjhhaaW.PrintMore
attribute [local go_sem] xcC xcB xcR xcQ xbX xbW xcF xcE   -- for this text's walks alone
theorem eqA63 (d : Nat) (w : World) (x0 y0 : Int) (x1 y1 : Int) (x2 y2 : Int) (x3 y3 : Int) (x4 y4 : Int) (x5 y5 : Int) (x6 y6 : Int) (x7 y7 : Int) (x8 y8 : Int) :
  (Op.equalIn (d + 2) 63 (.agg #[.int .i64 x0, .int .i64 x1, .int .i64 x2, .int .i64 x3, .int .i64 x4, .int .i64 x5, .int .i64 x6, .int .i64 x7, .int .i64 x8]) (.agg #[.int .i64 y0, .int .i64 y1, .int .i64 y2, .int .i64 y3, .int .i64 y4, .int .i64 y5, .int .i64 y6, .int .i64 y7, .int .i64 y8])).run Try.prog w = .ok (x0 == y0 && (x1 == y1 && (x2 == y2 && (x3 == y3 && (x4 == y4 && (x5 == y5 && (x6 == y6 && (x7 == y7 && (x8 == y8))))))))) w := by
 refine eqA_of Try.underlying63 (by kernel_rfl) ?_
 refine xfY (by rfl) (by go_simp; rfl) (by go_simp; rfl) (by go_simp) ?_
 refine xfY (by rfl) (by go_simp; rfl) (by go_simp; rfl) (by go_simp) ?_
 refine xfY (by rfl) (by go_simp; rfl) (by go_simp; rfl) (by go_simp) ?_
 refine xfY (by rfl) (by go_simp; rfl) (by go_simp; rfl) (by go_simp) ?_
 refine xfY (by rfl) (by go_simp; rfl) (by go_simp; rfl) (by go_simp) ?_
 refine xfY (by rfl) (by go_simp; rfl) (by go_simp; rfl) (by go_simp) ?_
 refine xfY (by rfl) (by go_simp; rfl) (by go_simp; rfl) (by go_simp) ?_
 refine xfY (by rfl) (by go_simp; rfl) (by go_simp; rfl) (by go_simp) ?_
 exact eqf_last (by rfl) (by go_simp; rfl) (by go_simp; rfl) (by go_simp)
end Go.Proofs.Ytoncignjcgjhhaa.Q
