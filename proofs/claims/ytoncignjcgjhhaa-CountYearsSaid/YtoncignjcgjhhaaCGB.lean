/- Contracts and facts of functions of the program (calendar, dates and their documents), joined in one text by a program of this session. No condition but what each theorem states. -/
import Derived.Test.YtoncignjcgjhhaaCGA
set_option linter.unusedVariables false
set_option linter.unusedSimpArgs false
namespace Go.Proofs.Ytoncignjcgjhhaa.Q
open Go.RowKit Go.Proofs.YtoncignjcgjhhaaW.PrintWords Go.Proofs.YtoncignjcgjhhaaW.PrintLast Go.Proofs.YtoncignjcgjhhaaW.PrintMore
attribute [local go_sem] xcC xcB xcR xcQ xbX xbW xcF xcE   -- for this text's walks alone
def xeP.f (k : Nat) (a0 : Int) (a1 : Int) (a2 : Int) : Option (Int × Int) := (xdE.f a0 a1).bind fun t116 => (if t116 = true then (if a2 < 1 then (some (0, 50)) else ((xcS.f a0 a1).bind fun t117 => (if a2 > t117 then (some (0, 50)) else ((xdJ.f k a0 a1 a2).bind fun t118 => (some (t118, 0)))))) else (some (0, 50)))
set_option maxHeartbeats 8000000 in
set_option maxRecDepth 100000 in
theorem xeP.calls (k : Nat) (a0 : Int) (a1 : Int) (a2 : Int) (r1 : Int) (r2 : Int) (w : World) (h : xeP.f k a0 a1 a2 = some (r1, r2)) :
  Calls Try.prog 95 #[.int .i64 a0, .int .i64 a1, .int .i64 a2] w fun e w' => e = .returned (.tuple #[.int .i64 r1, .int .i64 r2]) ∧ Drawn0 w w' := by
 have H : ((xdE.f a0 a1).bind fun t116 => (if t116 = true then (if a2 < 1 then (some (0, 50)) else ((xcS.f a0 a1).bind fun t117 => (if a2 > t117 then (some (0, 50)) else ((xdJ.f k a0 a1 a2).bind fun t118 => (some (t118, 0)))))) else (some (0, 50)))) = some (r1, r2) := h
 clear h;replace H := Option.bind_eq_some_iff.mp H
 obtain ⟨t116, A40, H⟩ := H
 replace H : (if t116 = true then (if a2 < 1 then (some (0, 50)) else ((xcS.f a0 a1).bind fun t117 => (if a2 > t117 then (some (0, 50)) else ((xdJ.f k a0 a1 a2).bind fun t118 => (some (t118, 0)))))) else (some (0, 50))) = some (r1, r2) := H
 have A4 := Aside0.mk A40;clear A40
 by_cases c5 : t116 = true
 ·
  subst c5
  have H1 : (if a2 < 1 then (some (0, 50)) else ((xcS.f a0 a1).bind fun t117 => (if a2 > t117 then (some (0, 50)) else ((xdJ.f k a0 a1 a2).bind fun t118 => (some (t118, 0)))))) = some (r1, r2) := by rw [if_pos rfl] at H; exact H
  clear H;have H := H1;clear H1
  by_cases c6 : a2 < 1
  ·
   rw [if_pos c6] at H
   have c6b0 : decide (a2 < 1) = true := decide_eq_true c6
   clear c6
   simp only [Option.some.injEq, Prod.mk.injEq] at H
   obtain ⟨rfl, rfl⟩ := H
   go_enter Try.func95, Try.ntmps95
   go_wp2_with (first | ((with_reducible refine xaQ (f := 121) rfl ?_); refine goesL_ (some 10) rfl rfl Try.func121 (by kernel_rfl) rfl #[.int .i64 a0, .int .i64 a1] rfl (by (try simp only [List.map_toArray, List.map_cons, List.map_nil]); first | done | rfl | (simp only [List.length_drop, List.length_take]; rfl)) ?_; (with_reducible refine (xdE.calls a0 a1 true _ A4.out).mono ?_); rintro e w' ⟨rfl, ⟨nd, rfl⟩⟩; refine ⟨_, rfl, ?_⟩))
   go_ret2
   exact ⟨by first | rfl | (simp; done) | (simp [*]; done), by repeat (first | exact Drawn0.refl _ | apply Drawn0.step)⟩
  ·
   rw [if_neg c6] at H
   have c6b0 : decide (a2 < 1) = false := decide_eq_false c6
   clear c6;replace H := Option.bind_eq_some_iff.mp H
   obtain ⟨t117, A70, H⟩ := H
   replace H : (if a2 > t117 then (some (0, 50)) else ((xdJ.f k a0 a1 a2).bind fun t118 => (some (t118, 0)))) = some (r1, r2) := H
   have A7 := Aside0.mk A70;clear A70
   by_cases c8 : a2 > t117
   ·
    rw [if_pos c8] at H
    have c8b0 : decide (t117 < a2) = true := decide_eq_true c8
    clear c8
    simp only [Option.some.injEq, Prod.mk.injEq] at H
    obtain ⟨rfl, rfl⟩ := H
    go_enter Try.func95, Try.ntmps95
    go_wp2_with (first | ((with_reducible refine xaQ (f := 121) rfl ?_); refine goesL_ (some 10) rfl rfl Try.func121 (by kernel_rfl) rfl #[.int .i64 a0, .int .i64 a1] rfl (by (try simp only [List.map_toArray, List.map_cons, List.map_nil]); first | done | rfl | (simp only [List.length_drop, List.length_take]; rfl)) ?_; (with_reducible refine (xdE.calls a0 a1 true _ A4.out).mono ?_); rintro e w' ⟨rfl, ⟨nd, rfl⟩⟩; refine ⟨_, rfl, ?_⟩) | (go_at_call 122; (with_reducible refine (xcS.calls a0 a1 t117 _ A7.out).mono ?_); rintro e w' ⟨rfl, ⟨nd, rfl⟩⟩))
    go_ret2
    exact ⟨by first | rfl | (simp; done) | (simp [*]; done), by repeat (first | exact Drawn0.refl _ | apply Drawn0.step)⟩
   ·
    rw [if_neg c8] at H
    have c8b0 : decide (t117 < a2) = false := decide_eq_false c8
    clear c8;replace H := Option.bind_eq_some_iff.mp H
    obtain ⟨t118, A90, H⟩ := H
    replace H : (some (t118, 0)) = some (r1, r2) := H
    have A9 := Aside0.mk A90;clear A90
    simp only [Option.some.injEq, Prod.mk.injEq] at H
    obtain ⟨rfl, rfl⟩ := H
    go_enter Try.func95, Try.ntmps95
    go_wp2_with (first | ((with_reducible refine xaQ (f := 121) rfl ?_); refine goesL_ (some 10) rfl rfl Try.func121 (by kernel_rfl) rfl #[.int .i64 a0, .int .i64 a1] rfl (by (try simp only [List.map_toArray, List.map_cons, List.map_nil]); first | done | rfl | (simp only [List.length_drop, List.length_take]; rfl)) ?_; (with_reducible refine (xdE.calls a0 a1 true _ A4.out).mono ?_); rintro e w' ⟨rfl, ⟨nd, rfl⟩⟩; refine ⟨_, rfl, ?_⟩) | (go_at_call 122; (with_reducible refine (xcS.calls a0 a1 t117 _ A7.out).mono ?_); rintro e w' ⟨rfl, ⟨nd, rfl⟩⟩) | ((with_reducible refine xaQ (f := 123) rfl ?_); refine goesL_ (some 26) rfl rfl Try.func123 (by kernel_rfl) rfl #[.int .i64 a0, .int .i64 a1, .int .i64 a2] rfl (by (try simp only [List.map_toArray, List.map_cons, List.map_nil]); first | done | rfl | (simp only [List.length_drop, List.length_take]; rfl)) ?_; (with_reducible refine (xdJ.calls k a0 a1 a2 t118 _ A9.out).mono ?_); rintro e w' ⟨rfl, ⟨nd, rfl⟩⟩; refine ⟨_, rfl, ?_⟩))
    go_ret2
    exact ⟨by first | rfl | (simp; done) | (simp [*]; done), by repeat (first | exact Drawn0.refl _ | apply Drawn0.step)⟩
 ·
  replace c5 := Bool.eq_false_iff.mpr c5;subst c5
  have H1 : (some (0, 50)) = some (r1, r2) := by rw [if_neg (show ¬ (false = true) by decide)] at H; exact H
  clear H;have H := H1;clear H1
  simp only [Option.some.injEq, Prod.mk.injEq] at H
  obtain ⟨rfl, rfl⟩ := H
  go_enter Try.func95, Try.ntmps95
  go_wp2_with (first | ((with_reducible refine xaQ (f := 121) rfl ?_); refine goesL_ (some 10) rfl rfl Try.func121 (by kernel_rfl) rfl #[.int .i64 a0, .int .i64 a1] rfl (by (try simp only [List.map_toArray, List.map_cons, List.map_nil]); first | done | rfl | (simp only [List.length_drop, List.length_take]; rfl)) ?_; (with_reducible refine (xdE.calls a0 a1 false _ A4.out).mono ?_); rintro e w' ⟨rfl, ⟨nd, rfl⟩⟩; refine ⟨_, rfl, ?_⟩))
  go_ret2
  exact ⟨by first | rfl | (simp; done) | (simp [*]; done), by repeat (first | exact Drawn0.refl _ | apply Drawn0.step)⟩
def xfR.f (k : Nat) (a0_0 : Int) (a0_1 : Int) (a0_2 : Int) (a0_3 : Int) (a0_4 : Int) (a0_5 : Int) (a0_6 : Int) (a0_7 : Int) (a0_8 : Int) (a1 : Int) : Option (Int × Bool) := (xeP.f k a1 a0_1 a0_2).bind fun bt120 => (some (bt120.1, (bt120.2 == 0)))
set_option maxHeartbeats 8000000 in
set_option maxRecDepth 100000 in
theorem xfR.calls (k : Nat) (a0_0 : Int) (a0_1 : Int) (a0_2 : Int) (a0_3 : Int) (a0_4 : Int) (a0_5 : Int) (a0_6 : Int) (a0_7 : Int) (a0_8 : Int) (a1 : Int) (r1 : Int) (r2 : Bool) (w : World) (h : xfR.f k a0_0 a0_1 a0_2 a0_3 a0_4 a0_5 a0_6 a0_7 a0_8 a1 = some (r1, r2)) :
  Calls Try.prog 155 #[.agg #[.int .i64 a0_0, .int .i64 a0_1, .int .i64 a0_2, .int .i64 a0_3, .int .i64 a0_4, .int .i64 a0_5, .int .i64 a0_6, .int .i64 a0_7, .int .i64 a0_8], .int .i64 a1] w fun e w' => e = .returned (.tuple #[.int .i64 r1, .bool r2]) ∧ Below w.heap.size w w' := by
 have hu132 := Try.underlying132
 have HB := Aside0.mk (Below.refl w.heap.size w)
 have H : ((xeP.f k a1 a0_1 a0_2).bind fun bt120 => (some (bt120.1, (bt120.2 == 0)))) = some (r1, r2) := h
 clear h;replace H := Option.bind_eq_some_iff.mp H
 obtain ⟨⟨t120, t121⟩, A30, H⟩ := H
 replace H : (some (t120, (t121 == 0))) = some (r1, r2) := H
 have A3 := Aside0.mk A30;clear A30
 simp only [Option.some.injEq, Prod.mk.injEq] at H
 obtain ⟨rfl, rfl⟩ := H
 go_enter Try.func155, Try.ntmps155
 go_wp2_with (first | ((with_reducible refine xbM (N := 2) rfl ?_); refine xbJ ?hg (N := 2) ?hd (cs := #[.int .i64 a0_0, .int .i64 a0_1, .int .i64 a0_2, .int .i64 a0_3, .int .i64 a0_4, .int .i64 a0_5, .int .i64 a0_6, .int .i64 a0_7, .int .i64 a0_8]) (t := 132) ?hr ?_; (case hd => rfl); (case hg => rfl); (case hr => first | (go_simp; done) | (go_simp; rfl)); intro gb119 hg w4 hbox hb; have n0_ := Aside0.mk (xaP (by repeat (first | (with_reducible first | exact HB.out | apply xaB | apply xaA | apply xaC) | exact HB.out)) hb); have n1_ := Aside0.mk (hbox); have n2_ := Aside0.mk ((by rw [hg]; exact (xaR (by repeat (first | (with_reducible first | exact HB.out | apply xaB | apply xaA | apply xaC) | exact HB.out))) : w.heap.size ≤ gb119)); have n3_ := Aside0.mk ((by rw [hg]; exact (xaR (by repeat (first | (with_reducible first | exact HB.out | apply xaB | apply xaA | apply xaC) | exact HB.out))) : w.heap.size ≤ gb119)); clear HB; have HB := n0_; have BK119 := n1_; have GW119 := n2_; have GE119 := n3_; clear n0_ n1_ n2_ n3_; clear hb hbox hg; have hcz5_0 : w4.cell? ⟨gb119, 0, none⟩ = some (.int .i64 a0_0) := (xaE BK119.out 0).trans rfl; have hcz5_1 : w4.cell? ⟨gb119, 1, none⟩ = some (.int .i64 a0_1) := (xaE BK119.out 1).trans rfl; have hcz5_2 : w4.cell? ⟨gb119, 2, none⟩ = some (.int .i64 a0_2) := (xaE BK119.out 2).trans rfl; have hcz5_3 : w4.cell? ⟨gb119, 3, none⟩ = some (.int .i64 a0_3) := (xaE BK119.out 3).trans rfl; have hcz5_4 : w4.cell? ⟨gb119, 4, none⟩ = some (.int .i64 a0_4) := (xaE BK119.out 4).trans rfl; have hcz5_5 : w4.cell? ⟨gb119, 5, none⟩ = some (.int .i64 a0_5) := (xaE BK119.out 5).trans rfl; have hcz5_6 : w4.cell? ⟨gb119, 6, none⟩ = some (.int .i64 a0_6) := (xaE BK119.out 6).trans rfl; have hcz5_7 : w4.cell? ⟨gb119, 7, none⟩ = some (.int .i64 a0_7) := (xaE BK119.out 7).trans rfl; have hcz5_8 : w4.cell? ⟨gb119, 8, none⟩ = some (.int .i64 a0_8) := (xaE BK119.out 8).trans rfl; have hfz5_0 := xaD BK119.out 0; have hfz5_1 := xaD BK119.out 1; have hfz5_2 := xaD BK119.out 2; have hfz5_3 := xaD BK119.out 3; have hfz5_4 := xaD BK119.out 4; have hfz5_5 := xaD BK119.out 5; have hfz5_6 := xaD BK119.out 6; have hfz5_7 := xaD BK119.out 7; have hfz5_8 := xaD BK119.out 8) | ((with_reducible refine xaQ (f := 95) rfl ?_); refine goesL_ (some 14) rfl rfl Try.func95 (by kernel_rfl) rfl #[.int .i64 a1, .int .i64 a0_1, .int .i64 a0_2] rfl (by (try simp only [List.map_toArray, List.map_cons, List.map_nil]); first | done | rfl | (simp only [List.length_drop, List.length_take]; rfl)) ?_; (with_reducible refine (xeP.calls k a1 a0_1 a0_2 t120 t121 _ A3.out).mono ?_); rintro e w' ⟨rfl, ⟨nd, rfl⟩⟩; refine ⟨_, rfl, ?_⟩))
 go_ret2
 exact ⟨by first | rfl | (simp [xaL, xaK] <;> rfl) | (simp [*, xaL, xaK] <;> rfl), by repeat (first | (with_reducible first | exact HB.out | apply xaB | apply xaA | apply xaC | refine xaF ?_ GE119.out) | exact HB.out)⟩
def xfV.f (a0_0 : Int) (a0_1 : Int) (a0_2 : Int) (a0_3 : Int) (a0_4 : Int) (a0_5 : Int) (a0_6 : Int) (a0_7 : Int) (a0_8 : Int) : Option (Bool) := if (Go.bits .or .i64 a0_2 a0_5) = 0 then ((xbL.f a0_1 1 12).bind fun t123 => (if t123 = true then ((xbL.f a0_4 0 6).bind fun t124 => (if t124 = true then ((xbL.f a0_3 1 5).bind fun t125 => (if t125 = true then ((xdC.f a0_0 a0_1 a0_2 a0_3 a0_4 a0_5 a0_6 a0_7 a0_8).bind fun t126 => (some t126)) else (some false))) else (some false))) else (some false))) else (some false)
set_option maxHeartbeats 8000000 in
set_option maxRecDepth 100000 in
theorem xfV.calls (a0_0 : Int) (a0_1 : Int) (a0_2 : Int) (a0_3 : Int) (a0_4 : Int) (a0_5 : Int) (a0_6 : Int) (a0_7 : Int) (a0_8 : Int) (r : Bool) (w : World) (h : xfV.f a0_0 a0_1 a0_2 a0_3 a0_4 a0_5 a0_6 a0_7 a0_8 = some r) :
  Calls Try.prog 159 #[.agg #[.int .i64 a0_0, .int .i64 a0_1, .int .i64 a0_2, .int .i64 a0_3, .int .i64 a0_4, .int .i64 a0_5, .int .i64 a0_6, .int .i64 a0_7, .int .i64 a0_8]] w fun e w' => e = .returned (.bool r) ∧ Below w.heap.size w w' := by
 have hu133 := Try.underlying133
 have HB := Aside0.mk (Below.refl w.heap.size w)
 have H : (if (Go.bits .or .i64 a0_2 a0_5) = 0 then ((xbL.f a0_1 1 12).bind fun t123 => (if t123 = true then ((xbL.f a0_4 0 6).bind fun t124 => (if t124 = true then ((xbL.f a0_3 1 5).bind fun t125 => (if t125 = true then ((xdC.f a0_0 a0_1 a0_2 a0_3 a0_4 a0_5 a0_6 a0_7 a0_8).bind fun t126 => (some t126)) else (some false))) else (some false))) else (some false))) else (some false)) = some r := h
 clear h
 by_cases c2 : (Go.bits .or .i64 a0_2 a0_5) = 0
 ·
  rw [if_pos c2] at H
  have c2b0 : ((Go.bits .or .i64 a0_2 a0_5) == 0) = true := beq_iff_eq.mpr c2
  have c2b1 : ((Go.bits .or .i64 a0_2 a0_5) != 0) = false := bne_eq_false_iff_eq.mpr c2
  clear c2;replace H := Option.bind_eq_some_iff.mp H
  obtain ⟨t123, A30, H⟩ := H
  replace H : (if t123 = true then ((xbL.f a0_4 0 6).bind fun t124 => (if t124 = true then ((xbL.f a0_3 1 5).bind fun t125 => (if t125 = true then ((xdC.f a0_0 a0_1 a0_2 a0_3 a0_4 a0_5 a0_6 a0_7 a0_8).bind fun t126 => (some t126)) else (some false))) else (some false))) else (some false)) = some r := H
  have A3 := Aside0.mk A30;clear A30
  by_cases c4 : t123 = true
  ·
   subst c4
   have H1 : ((xbL.f a0_4 0 6).bind fun t124 => (if t124 = true then ((xbL.f a0_3 1 5).bind fun t125 => (if t125 = true then ((xdC.f a0_0 a0_1 a0_2 a0_3 a0_4 a0_5 a0_6 a0_7 a0_8).bind fun t126 => (some t126)) else (some false))) else (some false))) = some r := by rw [if_pos rfl] at H; exact H
   clear H;have H := H1;clear H1;replace H := Option.bind_eq_some_iff.mp H
   obtain ⟨t124, A50, H⟩ := H
   replace H : (if t124 = true then ((xbL.f a0_3 1 5).bind fun t125 => (if t125 = true then ((xdC.f a0_0 a0_1 a0_2 a0_3 a0_4 a0_5 a0_6 a0_7 a0_8).bind fun t126 => (some t126)) else (some false))) else (some false)) = some r := H
   have A5 := Aside0.mk A50;clear A50
   by_cases c6 : t124 = true
   ·
    subst c6
    have H1 : ((xbL.f a0_3 1 5).bind fun t125 => (if t125 = true then ((xdC.f a0_0 a0_1 a0_2 a0_3 a0_4 a0_5 a0_6 a0_7 a0_8).bind fun t126 => (some t126)) else (some false))) = some r := by rw [if_pos rfl] at H; exact H
    clear H;have H := H1;clear H1;replace H := Option.bind_eq_some_iff.mp H
    obtain ⟨t125, A70, H⟩ := H
    replace H : (if t125 = true then ((xdC.f a0_0 a0_1 a0_2 a0_3 a0_4 a0_5 a0_6 a0_7 a0_8).bind fun t126 => (some t126)) else (some false)) = some r := H
    have A7 := Aside0.mk A70;clear A70
    by_cases c8 : t125 = true
    ·
     subst c8
     have H1 : ((xdC.f a0_0 a0_1 a0_2 a0_3 a0_4 a0_5 a0_6 a0_7 a0_8).bind fun t126 => (some t126)) = some r := by rw [if_pos rfl] at H; exact H
     clear H;have H := H1;clear H1;replace H := Option.bind_eq_some_iff.mp H
     obtain ⟨t126, A90, H⟩ := H
     replace H : (some t126) = some r := H
     have A9 := Aside0.mk A90;clear A90
     obtain rfl := Option.some.inj H
     go_enter Try.func159, Try.ntmps159
     go_wp2_with (first | ((with_reducible refine xbM (N := 1) rfl ?_); refine xbJ ?hg (N := 1) ?hd (cs := #[.int .i64 a0_0, .int .i64 a0_1, .int .i64 a0_2, .int .i64 a0_3, .int .i64 a0_4, .int .i64 a0_5, .int .i64 a0_6, .int .i64 a0_7, .int .i64 a0_8]) (t := 133) ?hr ?_; (case hd => rfl); (case hg => rfl); (case hr => first | (go_simp; done) | (go_simp; rfl)); intro gb122 hg w10 hbox hb; have n0_ := Aside0.mk (xaP (by repeat (first | (with_reducible first | exact HB.out | apply xaB | apply xaA | apply xaC) | exact HB.out)) hb); have n1_ := Aside0.mk (hbox); have n2_ := Aside0.mk ((by rw [hg]; exact (xaR (by repeat (first | (with_reducible first | exact HB.out | apply xaB | apply xaA | apply xaC) | exact HB.out))) : w.heap.size ≤ gb122)); have n3_ := Aside0.mk ((by rw [hg]; exact (xaR (by repeat (first | (with_reducible first | exact HB.out | apply xaB | apply xaA | apply xaC) | exact HB.out))) : w.heap.size ≤ gb122)); clear HB; have HB := n0_; have BK122 := n1_; have GW122 := n2_; have GE122 := n3_; clear n0_ n1_ n2_ n3_; clear hb hbox hg; have hcz11_0 : w10.cell? ⟨gb122, 0, none⟩ = some (.int .i64 a0_0) := (xaE BK122.out 0).trans rfl; have hcz11_1 : w10.cell? ⟨gb122, 1, none⟩ = some (.int .i64 a0_1) := (xaE BK122.out 1).trans rfl; have hcz11_2 : w10.cell? ⟨gb122, 2, none⟩ = some (.int .i64 a0_2) := (xaE BK122.out 2).trans rfl; have hcz11_3 : w10.cell? ⟨gb122, 3, none⟩ = some (.int .i64 a0_3) := (xaE BK122.out 3).trans rfl; have hcz11_4 : w10.cell? ⟨gb122, 4, none⟩ = some (.int .i64 a0_4) := (xaE BK122.out 4).trans rfl; have hcz11_5 : w10.cell? ⟨gb122, 5, none⟩ = some (.int .i64 a0_5) := (xaE BK122.out 5).trans rfl; have hcz11_6 : w10.cell? ⟨gb122, 6, none⟩ = some (.int .i64 a0_6) := (xaE BK122.out 6).trans rfl; have hcz11_7 : w10.cell? ⟨gb122, 7, none⟩ = some (.int .i64 a0_7) := (xaE BK122.out 7).trans rfl; have hcz11_8 : w10.cell? ⟨gb122, 8, none⟩ = some (.int .i64 a0_8) := (xaE BK122.out 8).trans rfl; have hfz11_0 := xaD BK122.out 0; have hfz11_1 := xaD BK122.out 1; have hfz11_2 := xaD BK122.out 2; have hfz11_3 := xaD BK122.out 3; have hfz11_4 := xaD BK122.out 4; have hfz11_5 := xaD BK122.out 5; have hfz11_6 := xaD BK122.out 6; have hfz11_7 := xaD BK122.out 7; have hfz11_8 := xaD BK122.out 8) | (go_at_call 83; (with_reducible refine (xbL.calls a0_1 1 12 true _ A3.out).mono ?_); rintro e w' ⟨rfl, ⟨nd, rfl⟩⟩) | (go_at_call 83; (with_reducible refine (xbL.calls a0_4 0 6 true _ A5.out).mono ?_); rintro e w' ⟨rfl, ⟨nd, rfl⟩⟩) | (go_at_call 83; (with_reducible refine (xbL.calls a0_3 1 5 true _ A7.out).mono ?_); rintro e w' ⟨rfl, ⟨nd, rfl⟩⟩) | (go_at_call 157; (with_reducible refine (xdC.calls a0_0 a0_1 a0_2 a0_3 a0_4 a0_5 a0_6 a0_7 a0_8 t126 _ A9.out).mono ?_); rintro e w12 ⟨rfl, hb⟩; have n0_ := Aside0.mk (xaY (g := gb122) (o := .cells #[.int .i64 a0_0, .int .i64 a0_1, .int .i64 a0_2, .int .i64 a0_3, .int .i64 a0_4, .int .i64 a0_5, .int .i64 a0_6, .int .i64 a0_7, .int .i64 a0_8] 133 (0, 0)) (by (with_reducible repeat (first | refine xaG ?_ _ | refine xaJ ?_ | refine xaH ?_ _)); exact BK122.out) hb); have n1_ := Aside0.mk (xaP (by repeat (first | (with_reducible first | exact HB.out | apply xaB | apply xaA | apply xaC | refine xaF ?_ GE122.out) | exact HB.out)) hb); clear BK122; clear HB; have BK122 := n0_; have HB := n1_; clear n0_ n1_; (try clear hb); (try clear hb2); (try clear hk); (try clear hi)))
     go_ret
     exact ⟨by first | rfl | (simp [xaL, xaK] <;> rfl) | (simp [*, xaL, xaK] <;> rfl), by repeat (first | (with_reducible first | exact HB.out | apply xaB | apply xaA | apply xaC | refine xaF ?_ GE122.out) | exact HB.out)⟩
    ·
     replace c8 := Bool.eq_false_iff.mpr c8;subst c8
     have H1 : (some false) = some r := by rw [if_neg (show ¬ (false = true) by decide)] at H; exact H
     clear H;have H := H1;clear H1
     obtain rfl := Option.some.inj H
     go_enter Try.func159, Try.ntmps159
     go_wp2_with (first | ((with_reducible refine xbM (N := 1) rfl ?_); refine xbJ ?hg (N := 1) ?hd (cs := #[.int .i64 a0_0, .int .i64 a0_1, .int .i64 a0_2, .int .i64 a0_3, .int .i64 a0_4, .int .i64 a0_5, .int .i64 a0_6, .int .i64 a0_7, .int .i64 a0_8]) (t := 133) ?hr ?_; (case hd => rfl); (case hg => rfl); (case hr => first | (go_simp; done) | (go_simp; rfl)); intro gb122 hg w13 hbox hb; have n0_ := Aside0.mk (xaP (by repeat (first | (with_reducible first | exact HB.out | apply xaB | apply xaA | apply xaC) | exact HB.out)) hb); have n1_ := Aside0.mk (hbox); have n2_ := Aside0.mk ((by rw [hg]; exact (xaR (by repeat (first | (with_reducible first | exact HB.out | apply xaB | apply xaA | apply xaC) | exact HB.out))) : w.heap.size ≤ gb122)); have n3_ := Aside0.mk ((by rw [hg]; exact (xaR (by repeat (first | (with_reducible first | exact HB.out | apply xaB | apply xaA | apply xaC) | exact HB.out))) : w.heap.size ≤ gb122)); clear HB; have HB := n0_; have BK122 := n1_; have GW122 := n2_; have GE122 := n3_; clear n0_ n1_ n2_ n3_; clear hb hbox hg; have hcz14_0 : w13.cell? ⟨gb122, 0, none⟩ = some (.int .i64 a0_0) := (xaE BK122.out 0).trans rfl; have hcz14_1 : w13.cell? ⟨gb122, 1, none⟩ = some (.int .i64 a0_1) := (xaE BK122.out 1).trans rfl; have hcz14_2 : w13.cell? ⟨gb122, 2, none⟩ = some (.int .i64 a0_2) := (xaE BK122.out 2).trans rfl; have hcz14_3 : w13.cell? ⟨gb122, 3, none⟩ = some (.int .i64 a0_3) := (xaE BK122.out 3).trans rfl; have hcz14_4 : w13.cell? ⟨gb122, 4, none⟩ = some (.int .i64 a0_4) := (xaE BK122.out 4).trans rfl; have hcz14_5 : w13.cell? ⟨gb122, 5, none⟩ = some (.int .i64 a0_5) := (xaE BK122.out 5).trans rfl; have hcz14_6 : w13.cell? ⟨gb122, 6, none⟩ = some (.int .i64 a0_6) := (xaE BK122.out 6).trans rfl; have hcz14_7 : w13.cell? ⟨gb122, 7, none⟩ = some (.int .i64 a0_7) := (xaE BK122.out 7).trans rfl; have hcz14_8 : w13.cell? ⟨gb122, 8, none⟩ = some (.int .i64 a0_8) := (xaE BK122.out 8).trans rfl; have hfz14_0 := xaD BK122.out 0; have hfz14_1 := xaD BK122.out 1; have hfz14_2 := xaD BK122.out 2; have hfz14_3 := xaD BK122.out 3; have hfz14_4 := xaD BK122.out 4; have hfz14_5 := xaD BK122.out 5; have hfz14_6 := xaD BK122.out 6; have hfz14_7 := xaD BK122.out 7; have hfz14_8 := xaD BK122.out 8) | (go_at_call 83; (with_reducible refine (xbL.calls a0_1 1 12 true _ A3.out).mono ?_); rintro e w' ⟨rfl, ⟨nd, rfl⟩⟩) | (go_at_call 83; (with_reducible refine (xbL.calls a0_4 0 6 true _ A5.out).mono ?_); rintro e w' ⟨rfl, ⟨nd, rfl⟩⟩) | (go_at_call 83; (with_reducible refine (xbL.calls a0_3 1 5 false _ A7.out).mono ?_); rintro e w' ⟨rfl, ⟨nd, rfl⟩⟩))
     go_ret
     exact ⟨by first | rfl | (simp [xaL, xaK] <;> rfl) | (simp [*, xaL, xaK] <;> rfl), by repeat (first | (with_reducible first | exact HB.out | apply xaB | apply xaA | apply xaC | refine xaF ?_ GE122.out) | exact HB.out)⟩
   ·
    replace c6 := Bool.eq_false_iff.mpr c6;subst c6
    have H1 : (some false) = some r := by rw [if_neg (show ¬ (false = true) by decide)] at H; exact H
    clear H;have H := H1;clear H1
    obtain rfl := Option.some.inj H
    go_enter Try.func159, Try.ntmps159
    go_wp2_with (first | ((with_reducible refine xbM (N := 1) rfl ?_); refine xbJ ?hg (N := 1) ?hd (cs := #[.int .i64 a0_0, .int .i64 a0_1, .int .i64 a0_2, .int .i64 a0_3, .int .i64 a0_4, .int .i64 a0_5, .int .i64 a0_6, .int .i64 a0_7, .int .i64 a0_8]) (t := 133) ?hr ?_; (case hd => rfl); (case hg => rfl); (case hr => first | (go_simp; done) | (go_simp; rfl)); intro gb122 hg w15 hbox hb; have n0_ := Aside0.mk (xaP (by repeat (first | (with_reducible first | exact HB.out | apply xaB | apply xaA | apply xaC) | exact HB.out)) hb); have n1_ := Aside0.mk (hbox); have n2_ := Aside0.mk ((by rw [hg]; exact (xaR (by repeat (first | (with_reducible first | exact HB.out | apply xaB | apply xaA | apply xaC) | exact HB.out))) : w.heap.size ≤ gb122)); have n3_ := Aside0.mk ((by rw [hg]; exact (xaR (by repeat (first | (with_reducible first | exact HB.out | apply xaB | apply xaA | apply xaC) | exact HB.out))) : w.heap.size ≤ gb122)); clear HB; have HB := n0_; have BK122 := n1_; have GW122 := n2_; have GE122 := n3_; clear n0_ n1_ n2_ n3_; clear hb hbox hg; have hcz16_0 : w15.cell? ⟨gb122, 0, none⟩ = some (.int .i64 a0_0) := (xaE BK122.out 0).trans rfl; have hcz16_1 : w15.cell? ⟨gb122, 1, none⟩ = some (.int .i64 a0_1) := (xaE BK122.out 1).trans rfl; have hcz16_2 : w15.cell? ⟨gb122, 2, none⟩ = some (.int .i64 a0_2) := (xaE BK122.out 2).trans rfl; have hcz16_3 : w15.cell? ⟨gb122, 3, none⟩ = some (.int .i64 a0_3) := (xaE BK122.out 3).trans rfl; have hcz16_4 : w15.cell? ⟨gb122, 4, none⟩ = some (.int .i64 a0_4) := (xaE BK122.out 4).trans rfl; have hcz16_5 : w15.cell? ⟨gb122, 5, none⟩ = some (.int .i64 a0_5) := (xaE BK122.out 5).trans rfl; have hcz16_6 : w15.cell? ⟨gb122, 6, none⟩ = some (.int .i64 a0_6) := (xaE BK122.out 6).trans rfl; have hcz16_7 : w15.cell? ⟨gb122, 7, none⟩ = some (.int .i64 a0_7) := (xaE BK122.out 7).trans rfl; have hcz16_8 : w15.cell? ⟨gb122, 8, none⟩ = some (.int .i64 a0_8) := (xaE BK122.out 8).trans rfl; have hfz16_0 := xaD BK122.out 0; have hfz16_1 := xaD BK122.out 1; have hfz16_2 := xaD BK122.out 2; have hfz16_3 := xaD BK122.out 3; have hfz16_4 := xaD BK122.out 4; have hfz16_5 := xaD BK122.out 5; have hfz16_6 := xaD BK122.out 6; have hfz16_7 := xaD BK122.out 7; have hfz16_8 := xaD BK122.out 8) | (go_at_call 83; (with_reducible refine (xbL.calls a0_1 1 12 true _ A3.out).mono ?_); rintro e w' ⟨rfl, ⟨nd, rfl⟩⟩) | (go_at_call 83; (with_reducible refine (xbL.calls a0_4 0 6 false _ A5.out).mono ?_); rintro e w' ⟨rfl, ⟨nd, rfl⟩⟩))
    go_ret
    exact ⟨by first | rfl | (simp [xaL, xaK] <;> rfl) | (simp [*, xaL, xaK] <;> rfl), by repeat (first | (with_reducible first | exact HB.out | apply xaB | apply xaA | apply xaC | refine xaF ?_ GE122.out) | exact HB.out)⟩
  ·
   replace c4 := Bool.eq_false_iff.mpr c4;subst c4
   have H1 : (some false) = some r := by rw [if_neg (show ¬ (false = true) by decide)] at H; exact H
   clear H;have H := H1;clear H1
   obtain rfl := Option.some.inj H
   go_enter Try.func159, Try.ntmps159
   go_wp2_with (first | ((with_reducible refine xbM (N := 1) rfl ?_); refine xbJ ?hg (N := 1) ?hd (cs := #[.int .i64 a0_0, .int .i64 a0_1, .int .i64 a0_2, .int .i64 a0_3, .int .i64 a0_4, .int .i64 a0_5, .int .i64 a0_6, .int .i64 a0_7, .int .i64 a0_8]) (t := 133) ?hr ?_; (case hd => rfl); (case hg => rfl); (case hr => first | (go_simp; done) | (go_simp; rfl)); intro gb122 hg w17 hbox hb; have n0_ := Aside0.mk (xaP (by repeat (first | (with_reducible first | exact HB.out | apply xaB | apply xaA | apply xaC) | exact HB.out)) hb); have n1_ := Aside0.mk (hbox); have n2_ := Aside0.mk ((by rw [hg]; exact (xaR (by repeat (first | (with_reducible first | exact HB.out | apply xaB | apply xaA | apply xaC) | exact HB.out))) : w.heap.size ≤ gb122)); have n3_ := Aside0.mk ((by rw [hg]; exact (xaR (by repeat (first | (with_reducible first | exact HB.out | apply xaB | apply xaA | apply xaC) | exact HB.out))) : w.heap.size ≤ gb122)); clear HB; have HB := n0_; have BK122 := n1_; have GW122 := n2_; have GE122 := n3_; clear n0_ n1_ n2_ n3_; clear hb hbox hg; have hcz18_0 : w17.cell? ⟨gb122, 0, none⟩ = some (.int .i64 a0_0) := (xaE BK122.out 0).trans rfl; have hcz18_1 : w17.cell? ⟨gb122, 1, none⟩ = some (.int .i64 a0_1) := (xaE BK122.out 1).trans rfl; have hcz18_2 : w17.cell? ⟨gb122, 2, none⟩ = some (.int .i64 a0_2) := (xaE BK122.out 2).trans rfl; have hcz18_3 : w17.cell? ⟨gb122, 3, none⟩ = some (.int .i64 a0_3) := (xaE BK122.out 3).trans rfl; have hcz18_4 : w17.cell? ⟨gb122, 4, none⟩ = some (.int .i64 a0_4) := (xaE BK122.out 4).trans rfl; have hcz18_5 : w17.cell? ⟨gb122, 5, none⟩ = some (.int .i64 a0_5) := (xaE BK122.out 5).trans rfl; have hcz18_6 : w17.cell? ⟨gb122, 6, none⟩ = some (.int .i64 a0_6) := (xaE BK122.out 6).trans rfl; have hcz18_7 : w17.cell? ⟨gb122, 7, none⟩ = some (.int .i64 a0_7) := (xaE BK122.out 7).trans rfl; have hcz18_8 : w17.cell? ⟨gb122, 8, none⟩ = some (.int .i64 a0_8) := (xaE BK122.out 8).trans rfl; have hfz18_0 := xaD BK122.out 0; have hfz18_1 := xaD BK122.out 1; have hfz18_2 := xaD BK122.out 2; have hfz18_3 := xaD BK122.out 3; have hfz18_4 := xaD BK122.out 4; have hfz18_5 := xaD BK122.out 5; have hfz18_6 := xaD BK122.out 6; have hfz18_7 := xaD BK122.out 7; have hfz18_8 := xaD BK122.out 8) | (go_at_call 83; (with_reducible refine (xbL.calls a0_1 1 12 false _ A3.out).mono ?_); rintro e w' ⟨rfl, ⟨nd, rfl⟩⟩))
   go_ret
   exact ⟨by first | rfl | (simp [xaL, xaK] <;> rfl) | (simp [*, xaL, xaK] <;> rfl), by repeat (first | (with_reducible first | exact HB.out | apply xaB | apply xaA | apply xaC | refine xaF ?_ GE122.out) | exact HB.out)⟩
 ·
  rw [if_neg c2] at H
  have c2b0 : ((Go.bits .or .i64 a0_2 a0_5) == 0) = false := beq_eq_false_iff_ne.mpr c2
  have c2b1 : ((Go.bits .or .i64 a0_2 a0_5) != 0) = true := bne_iff_ne.mpr c2
  obtain rfl := Option.some.inj H
  go_enter Try.func159, Try.ntmps159
  go_wp2_with (first | ((with_reducible refine xbM (N := 1) rfl ?_); refine xbJ ?hg (N := 1) ?hd (cs := #[.int .i64 a0_0, .int .i64 a0_1, .int .i64 a0_2, .int .i64 a0_3, .int .i64 a0_4, .int .i64 a0_5, .int .i64 a0_6, .int .i64 a0_7, .int .i64 a0_8]) (t := 133) ?hr ?_; (case hd => rfl); (case hg => rfl); (case hr => first | (go_simp; done) | (go_simp; rfl)); intro gb122 hg w19 hbox hb; have n0_ := Aside0.mk (xaP (by repeat (first | (with_reducible first | exact HB.out | apply xaB | apply xaA | apply xaC) | exact HB.out)) hb); have n1_ := Aside0.mk (hbox); have n2_ := Aside0.mk ((by rw [hg]; exact (xaR (by repeat (first | (with_reducible first | exact HB.out | apply xaB | apply xaA | apply xaC) | exact HB.out))) : w.heap.size ≤ gb122)); have n3_ := Aside0.mk ((by rw [hg]; exact (xaR (by repeat (first | (with_reducible first | exact HB.out | apply xaB | apply xaA | apply xaC) | exact HB.out))) : w.heap.size ≤ gb122)); clear HB; have HB := n0_; have BK122 := n1_; have GW122 := n2_; have GE122 := n3_; clear n0_ n1_ n2_ n3_; clear hb hbox hg; have hcz20_0 : w19.cell? ⟨gb122, 0, none⟩ = some (.int .i64 a0_0) := (xaE BK122.out 0).trans rfl; have hcz20_1 : w19.cell? ⟨gb122, 1, none⟩ = some (.int .i64 a0_1) := (xaE BK122.out 1).trans rfl; have hcz20_2 : w19.cell? ⟨gb122, 2, none⟩ = some (.int .i64 a0_2) := (xaE BK122.out 2).trans rfl; have hcz20_3 : w19.cell? ⟨gb122, 3, none⟩ = some (.int .i64 a0_3) := (xaE BK122.out 3).trans rfl; have hcz20_4 : w19.cell? ⟨gb122, 4, none⟩ = some (.int .i64 a0_4) := (xaE BK122.out 4).trans rfl; have hcz20_5 : w19.cell? ⟨gb122, 5, none⟩ = some (.int .i64 a0_5) := (xaE BK122.out 5).trans rfl; have hcz20_6 : w19.cell? ⟨gb122, 6, none⟩ = some (.int .i64 a0_6) := (xaE BK122.out 6).trans rfl; have hcz20_7 : w19.cell? ⟨gb122, 7, none⟩ = some (.int .i64 a0_7) := (xaE BK122.out 7).trans rfl; have hcz20_8 : w19.cell? ⟨gb122, 8, none⟩ = some (.int .i64 a0_8) := (xaE BK122.out 8).trans rfl; have hfz20_0 := xaD BK122.out 0; have hfz20_1 := xaD BK122.out 1; have hfz20_2 := xaD BK122.out 2; have hfz20_3 := xaD BK122.out 3; have hfz20_4 := xaD BK122.out 4; have hfz20_5 := xaD BK122.out 5; have hfz20_6 := xaD BK122.out 6; have hfz20_7 := xaD BK122.out 7; have hfz20_8 := xaD BK122.out 8))
  go_ret
  exact ⟨by first | rfl | (simp [xaL, xaK] <;> rfl) | (simp [*, xaL, xaK] <;> rfl), by repeat (first | (with_reducible first | exact HB.out | apply xaB | apply xaA | apply xaC | refine xaF ?_ GE122.out) | exact HB.out)⟩
def xgG.f (k : Nat) (a0_0 : Int) (a0_1 : Int) (a0_2 : Int) (a0_3 : Int) (a0_4 : Int) (a0_5 : Int) (a0_6 : Int) (a0_7 : Int) (a0_8 : Int) (a1 : Int) : Option (Int × Bool) := (xeP.f k a1 a0_1 1).bind fun bt128 => ((xdL.f a1 a0_1).bind fun bt130 => (if (wrap64 ((Int.tmod (wrap64 ((wrap64 (a0_4 - (Int.tmod bt128.1 7))) + 7)) 7) + (wrap64 (7 * (wrap64 (a0_3 - 1)))))) ≥ bt130.1 then (some (wrap64 (bt128.1 + (wrap64 ((wrap64 ((Int.tmod (wrap64 ((wrap64 (a0_4 - (Int.tmod bt128.1 7))) + 7)) 7) + (wrap64 (7 * (wrap64 (a0_3 - 1)))))) - 7))), true)) else (some (wrap64 (bt128.1 + (wrap64 ((Int.tmod (wrap64 ((wrap64 (a0_4 - (Int.tmod bt128.1 7))) + 7)) 7) + (wrap64 (7 * (wrap64 (a0_3 - 1))))))), true))))
set_option maxHeartbeats 8000000 in
set_option maxRecDepth 100000 in
theorem xgG.calls (k : Nat) (a0_0 : Int) (a0_1 : Int) (a0_2 : Int) (a0_3 : Int) (a0_4 : Int) (a0_5 : Int) (a0_6 : Int) (a0_7 : Int) (a0_8 : Int) (a1 : Int) (r1 : Int) (r2 : Bool) (w : World) (h : xgG.f k a0_0 a0_1 a0_2 a0_3 a0_4 a0_5 a0_6 a0_7 a0_8 a1 = some (r1, r2)) :
  Calls Try.prog 158 #[.agg #[.int .i64 a0_0, .int .i64 a0_1, .int .i64 a0_2, .int .i64 a0_3, .int .i64 a0_4, .int .i64 a0_5, .int .i64 a0_6, .int .i64 a0_7, .int .i64 a0_8], .int .i64 a1] w fun e w' => e = .returned (.tuple #[.int .i64 r1, .bool r2]) ∧ Below w.heap.size w w' := by
 have hu133 := Try.underlying133
 have HB := Aside0.mk (Below.refl w.heap.size w)
 have H : ((xeP.f k a1 a0_1 1).bind fun bt128 => ((xdL.f a1 a0_1).bind fun bt130 => (if (wrap64 ((Int.tmod (wrap64 ((wrap64 (a0_4 - (Int.tmod bt128.1 7))) + 7)) 7) + (wrap64 (7 * (wrap64 (a0_3 - 1)))))) ≥ bt130.1 then (some (wrap64 (bt128.1 + (wrap64 ((wrap64 ((Int.tmod (wrap64 ((wrap64 (a0_4 - (Int.tmod bt128.1 7))) + 7)) 7) + (wrap64 (7 * (wrap64 (a0_3 - 1)))))) - 7))), true)) else (some (wrap64 (bt128.1 + (wrap64 ((Int.tmod (wrap64 ((wrap64 (a0_4 - (Int.tmod bt128.1 7))) + 7)) 7) + (wrap64 (7 * (wrap64 (a0_3 - 1))))))), true))))) = some (r1, r2) := h
 clear h;replace H := Option.bind_eq_some_iff.mp H
 obtain ⟨⟨t128, t129⟩, A30, H⟩ := H
 replace H : ((xdL.f a1 a0_1).bind fun bt130 => (if (wrap64 ((Int.tmod (wrap64 ((wrap64 (a0_4 - (Int.tmod t128 7))) + 7)) 7) + (wrap64 (7 * (wrap64 (a0_3 - 1)))))) ≥ bt130.1 then (some (wrap64 (t128 + (wrap64 ((wrap64 ((Int.tmod (wrap64 ((wrap64 (a0_4 - (Int.tmod t128 7))) + 7)) 7) + (wrap64 (7 * (wrap64 (a0_3 - 1)))))) - 7))), true)) else (some (wrap64 (t128 + (wrap64 ((Int.tmod (wrap64 ((wrap64 (a0_4 - (Int.tmod t128 7))) + 7)) 7) + (wrap64 (7 * (wrap64 (a0_3 - 1))))))), true)))) = some (r1, r2) := H
 have A3 := Aside0.mk A30;clear A30;replace H := Option.bind_eq_some_iff.mp H
 obtain ⟨⟨t130, t131⟩, A40, H⟩ := H
 replace H : (if (wrap64 ((Int.tmod (wrap64 ((wrap64 (a0_4 - (Int.tmod t128 7))) + 7)) 7) + (wrap64 (7 * (wrap64 (a0_3 - 1)))))) ≥ t130 then (some (wrap64 (t128 + (wrap64 ((wrap64 ((Int.tmod (wrap64 ((wrap64 (a0_4 - (Int.tmod t128 7))) + 7)) 7) + (wrap64 (7 * (wrap64 (a0_3 - 1)))))) - 7))), true)) else (some (wrap64 (t128 + (wrap64 ((Int.tmod (wrap64 ((wrap64 (a0_4 - (Int.tmod t128 7))) + 7)) 7) + (wrap64 (7 * (wrap64 (a0_3 - 1))))))), true))) = some (r1, r2) := H
 have A4 := Aside0.mk A40;clear A40
 by_cases c5 : (wrap64 ((Int.tmod (wrap64 ((wrap64 (a0_4 - (Int.tmod t128 7))) + 7)) 7) + (wrap64 (7 * (wrap64 (a0_3 - 1)))))) ≥ t130
 ·
  rw [if_pos c5] at H
  have c5b0 : decide (t130 ≤ (wrap64 ((Int.tmod (wrap64 ((wrap64 (a0_4 - (Int.tmod t128 7))) + 7)) 7) + (wrap64 (7 * (wrap64 (a0_3 - 1))))))) = true := decide_eq_true c5
  clear c5
  simp only [Option.some.injEq, Prod.mk.injEq] at H
  obtain ⟨rfl, rfl⟩ := H
  go_enter Try.func158, Try.ntmps158
  go_wp2_with (first | ((with_reducible refine xbM (N := 2) rfl ?_); refine xbJ ?hg (N := 2) ?hd (cs := #[.int .i64 a0_0, .int .i64 a0_1, .int .i64 a0_2, .int .i64 a0_3, .int .i64 a0_4, .int .i64 a0_5, .int .i64 a0_6, .int .i64 a0_7, .int .i64 a0_8]) (t := 133) ?hr ?_; (case hd => rfl); (case hg => rfl); (case hr => first | (go_simp; done) | (go_simp; rfl)); intro gb127 hg w6 hbox hb; have n0_ := Aside0.mk (xaP (by repeat (first | (with_reducible first | exact HB.out | apply xaB | apply xaA | apply xaC) | exact HB.out)) hb); have n1_ := Aside0.mk (hbox); have n2_ := Aside0.mk ((by rw [hg]; exact (xaR (by repeat (first | (with_reducible first | exact HB.out | apply xaB | apply xaA | apply xaC) | exact HB.out))) : w.heap.size ≤ gb127)); have n3_ := Aside0.mk ((by rw [hg]; exact (xaR (by repeat (first | (with_reducible first | exact HB.out | apply xaB | apply xaA | apply xaC) | exact HB.out))) : w.heap.size ≤ gb127)); clear HB; have HB := n0_; have BK127 := n1_; have GW127 := n2_; have GE127 := n3_; clear n0_ n1_ n2_ n3_; clear hb hbox hg; have hcz7_0 : w6.cell? ⟨gb127, 0, none⟩ = some (.int .i64 a0_0) := (xaE BK127.out 0).trans rfl; have hcz7_1 : w6.cell? ⟨gb127, 1, none⟩ = some (.int .i64 a0_1) := (xaE BK127.out 1).trans rfl; have hcz7_2 : w6.cell? ⟨gb127, 2, none⟩ = some (.int .i64 a0_2) := (xaE BK127.out 2).trans rfl; have hcz7_3 : w6.cell? ⟨gb127, 3, none⟩ = some (.int .i64 a0_3) := (xaE BK127.out 3).trans rfl; have hcz7_4 : w6.cell? ⟨gb127, 4, none⟩ = some (.int .i64 a0_4) := (xaE BK127.out 4).trans rfl; have hcz7_5 : w6.cell? ⟨gb127, 5, none⟩ = some (.int .i64 a0_5) := (xaE BK127.out 5).trans rfl; have hcz7_6 : w6.cell? ⟨gb127, 6, none⟩ = some (.int .i64 a0_6) := (xaE BK127.out 6).trans rfl; have hcz7_7 : w6.cell? ⟨gb127, 7, none⟩ = some (.int .i64 a0_7) := (xaE BK127.out 7).trans rfl; have hcz7_8 : w6.cell? ⟨gb127, 8, none⟩ = some (.int .i64 a0_8) := (xaE BK127.out 8).trans rfl; have hfz7_0 := xaD BK127.out 0; have hfz7_1 := xaD BK127.out 1; have hfz7_2 := xaD BK127.out 2; have hfz7_3 := xaD BK127.out 3; have hfz7_4 := xaD BK127.out 4; have hfz7_5 := xaD BK127.out 5; have hfz7_6 := xaD BK127.out 6; have hfz7_7 := xaD BK127.out 7; have hfz7_8 := xaD BK127.out 8) | ((with_reducible refine xaQ (f := 95) rfl ?_); refine goesL_ (some 15) rfl rfl Try.func95 (by kernel_rfl) rfl #[.int .i64 a1, .int .i64 a0_1, .int .i64 1] rfl (by (try simp only [List.map_toArray, List.map_cons, List.map_nil]); first | done | rfl | (simp only [List.length_drop, List.length_take]; rfl)) ?_; (with_reducible refine (xeP.calls k a1 a0_1 1 t128 t129 _ A3.out).mono ?_); rintro e w' ⟨rfl, ⟨nd, rfl⟩⟩; refine ⟨_, rfl, ?_⟩) | ((with_reducible refine xaQ (f := 113) rfl ?_); refine goesL_ (some 22) rfl rfl Try.func113 (by kernel_rfl) rfl #[.int .i64 a1, .int .i64 a0_1] rfl (by (try simp only [List.map_toArray, List.map_cons, List.map_nil]); first | done | rfl | (simp only [List.length_drop, List.length_take]; rfl)) ?_; (with_reducible refine (xdL.calls a1 a0_1 t130 t131 _ A4.out).mono ?_); rintro e w' ⟨rfl, ⟨nd, rfl⟩⟩; refine ⟨_, rfl, ?_⟩))
  go_ret2
  exact ⟨by first | rfl | (simp [xaL, xaK] <;> rfl) | (simp [*, xaL, xaK] <;> rfl), by repeat (first | (with_reducible first | exact HB.out | apply xaB | apply xaA | apply xaC | refine xaF ?_ GE127.out) | exact HB.out)⟩
 ·
  rw [if_neg c5] at H
  have c5b0 : decide (t130 ≤ (wrap64 ((Int.tmod (wrap64 ((wrap64 (a0_4 - (Int.tmod t128 7))) + 7)) 7) + (wrap64 (7 * (wrap64 (a0_3 - 1))))))) = false := decide_eq_false c5
  clear c5
  simp only [Option.some.injEq, Prod.mk.injEq] at H
  obtain ⟨rfl, rfl⟩ := H
  go_enter Try.func158, Try.ntmps158
  go_wp2_with (first | ((with_reducible refine xbM (N := 2) rfl ?_); refine xbJ ?hg (N := 2) ?hd (cs := #[.int .i64 a0_0, .int .i64 a0_1, .int .i64 a0_2, .int .i64 a0_3, .int .i64 a0_4, .int .i64 a0_5, .int .i64 a0_6, .int .i64 a0_7, .int .i64 a0_8]) (t := 133) ?hr ?_; (case hd => rfl); (case hg => rfl); (case hr => first | (go_simp; done) | (go_simp; rfl)); intro gb127 hg w8 hbox hb; have n0_ := Aside0.mk (xaP (by repeat (first | (with_reducible first | exact HB.out | apply xaB | apply xaA | apply xaC) | exact HB.out)) hb); have n1_ := Aside0.mk (hbox); have n2_ := Aside0.mk ((by rw [hg]; exact (xaR (by repeat (first | (with_reducible first | exact HB.out | apply xaB | apply xaA | apply xaC) | exact HB.out))) : w.heap.size ≤ gb127)); have n3_ := Aside0.mk ((by rw [hg]; exact (xaR (by repeat (first | (with_reducible first | exact HB.out | apply xaB | apply xaA | apply xaC) | exact HB.out))) : w.heap.size ≤ gb127)); clear HB; have HB := n0_; have BK127 := n1_; have GW127 := n2_; have GE127 := n3_; clear n0_ n1_ n2_ n3_; clear hb hbox hg; have hcz9_0 : w8.cell? ⟨gb127, 0, none⟩ = some (.int .i64 a0_0) := (xaE BK127.out 0).trans rfl; have hcz9_1 : w8.cell? ⟨gb127, 1, none⟩ = some (.int .i64 a0_1) := (xaE BK127.out 1).trans rfl; have hcz9_2 : w8.cell? ⟨gb127, 2, none⟩ = some (.int .i64 a0_2) := (xaE BK127.out 2).trans rfl; have hcz9_3 : w8.cell? ⟨gb127, 3, none⟩ = some (.int .i64 a0_3) := (xaE BK127.out 3).trans rfl; have hcz9_4 : w8.cell? ⟨gb127, 4, none⟩ = some (.int .i64 a0_4) := (xaE BK127.out 4).trans rfl; have hcz9_5 : w8.cell? ⟨gb127, 5, none⟩ = some (.int .i64 a0_5) := (xaE BK127.out 5).trans rfl; have hcz9_6 : w8.cell? ⟨gb127, 6, none⟩ = some (.int .i64 a0_6) := (xaE BK127.out 6).trans rfl; have hcz9_7 : w8.cell? ⟨gb127, 7, none⟩ = some (.int .i64 a0_7) := (xaE BK127.out 7).trans rfl; have hcz9_8 : w8.cell? ⟨gb127, 8, none⟩ = some (.int .i64 a0_8) := (xaE BK127.out 8).trans rfl; have hfz9_0 := xaD BK127.out 0; have hfz9_1 := xaD BK127.out 1; have hfz9_2 := xaD BK127.out 2; have hfz9_3 := xaD BK127.out 3; have hfz9_4 := xaD BK127.out 4; have hfz9_5 := xaD BK127.out 5; have hfz9_6 := xaD BK127.out 6; have hfz9_7 := xaD BK127.out 7; have hfz9_8 := xaD BK127.out 8) | ((with_reducible refine xaQ (f := 95) rfl ?_); refine goesL_ (some 15) rfl rfl Try.func95 (by kernel_rfl) rfl #[.int .i64 a1, .int .i64 a0_1, .int .i64 1] rfl (by (try simp only [List.map_toArray, List.map_cons, List.map_nil]); first | done | rfl | (simp only [List.length_drop, List.length_take]; rfl)) ?_; (with_reducible refine (xeP.calls k a1 a0_1 1 t128 t129 _ A3.out).mono ?_); rintro e w' ⟨rfl, ⟨nd, rfl⟩⟩; refine ⟨_, rfl, ?_⟩) | ((with_reducible refine xaQ (f := 113) rfl ?_); refine goesL_ (some 22) rfl rfl Try.func113 (by kernel_rfl) rfl #[.int .i64 a1, .int .i64 a0_1] rfl (by (try simp only [List.map_toArray, List.map_cons, List.map_nil]); first | done | rfl | (simp only [List.length_drop, List.length_take]; rfl)) ?_; (with_reducible refine (xdL.calls a1 a0_1 t130 t131 _ A4.out).mono ?_); rintro e w' ⟨rfl, ⟨nd, rfl⟩⟩; refine ⟨_, rfl, ?_⟩))
  go_ret2
  exact ⟨by first | rfl | (simp [xaL, xaK] <;> rfl) | (simp [*, xaL, xaK] <;> rfl), by repeat (first | (with_reducible first | exact HB.out | apply xaB | apply xaA | apply xaC | refine xaF ?_ GE127.out) | exact HB.out)⟩
def xeV.f (a0_0 : Int) (a0_1 : Int) (a0_2 : Int) (a0_3 : Int) (a0_4 : Int) (a0_5 : Int) (a0_6 : Int) (a0_7 : Int) (a0_8 : Int) : Option (Bool) := if (Go.bits .or .i64 (Go.bits .or .i64 (Go.bits .or .i64 a0_1 a0_2) a0_3) a0_4) = 0 then ((xbL.f a0_5 (-100) 100).bind fun t133 => (if t133 = true then ((xdC.f a0_0 a0_1 a0_2 a0_3 a0_4 a0_5 a0_6 a0_7 a0_8).bind fun t134 => (some t134)) else (some false))) else (some false)
set_option maxHeartbeats 8000000 in
set_option maxRecDepth 100000 in
theorem xeV.calls (a0_0 : Int) (a0_1 : Int) (a0_2 : Int) (a0_3 : Int) (a0_4 : Int) (a0_5 : Int) (a0_6 : Int) (a0_7 : Int) (a0_8 : Int) (r : Bool) (w : World) (h : xeV.f a0_0 a0_1 a0_2 a0_3 a0_4 a0_5 a0_6 a0_7 a0_8 = some r) :
  Calls Try.prog 161 #[.agg #[.int .i64 a0_0, .int .i64 a0_1, .int .i64 a0_2, .int .i64 a0_3, .int .i64 a0_4, .int .i64 a0_5, .int .i64 a0_6, .int .i64 a0_7, .int .i64 a0_8]] w fun e w' => e = .returned (.bool r) ∧ Below w.heap.size w w' := by
 have hu134 := Try.underlying134
 have HB := Aside0.mk (Below.refl w.heap.size w)
 have H : (if (Go.bits .or .i64 (Go.bits .or .i64 (Go.bits .or .i64 a0_1 a0_2) a0_3) a0_4) = 0 then ((xbL.f a0_5 (-100) 100).bind fun t133 => (if t133 = true then ((xdC.f a0_0 a0_1 a0_2 a0_3 a0_4 a0_5 a0_6 a0_7 a0_8).bind fun t134 => (some t134)) else (some false))) else (some false)) = some r := h
 clear h
 by_cases c2 : (Go.bits .or .i64 (Go.bits .or .i64 (Go.bits .or .i64 a0_1 a0_2) a0_3) a0_4) = 0
 ·
  rw [if_pos c2] at H
  have c2b0 : ((Go.bits .or .i64 (Go.bits .or .i64 (Go.bits .or .i64 a0_1 a0_2) a0_3) a0_4) == 0) = true := beq_iff_eq.mpr c2
  have c2b1 : ((Go.bits .or .i64 (Go.bits .or .i64 (Go.bits .or .i64 a0_1 a0_2) a0_3) a0_4) != 0) = false := bne_eq_false_iff_eq.mpr c2
  clear c2;replace H := Option.bind_eq_some_iff.mp H
  obtain ⟨t133, A30, H⟩ := H
  replace H : (if t133 = true then ((xdC.f a0_0 a0_1 a0_2 a0_3 a0_4 a0_5 a0_6 a0_7 a0_8).bind fun t134 => (some t134)) else (some false)) = some r := H
  have A3 := Aside0.mk A30;clear A30
  by_cases c4 : t133 = true
  ·
   subst c4
   have H1 : ((xdC.f a0_0 a0_1 a0_2 a0_3 a0_4 a0_5 a0_6 a0_7 a0_8).bind fun t134 => (some t134)) = some r := by rw [if_pos rfl] at H; exact H
   clear H;have H := H1;clear H1;replace H := Option.bind_eq_some_iff.mp H
   obtain ⟨t134, A50, H⟩ := H
   replace H : (some t134) = some r := H
   have A5 := Aside0.mk A50;clear A50
   obtain rfl := Option.some.inj H
   go_enter Try.func161, Try.ntmps161
   go_wp2_with (first | ((with_reducible refine xbM (N := 1) rfl ?_); refine xbJ ?hg (N := 1) ?hd (cs := #[.int .i64 a0_0, .int .i64 a0_1, .int .i64 a0_2, .int .i64 a0_3, .int .i64 a0_4, .int .i64 a0_5, .int .i64 a0_6, .int .i64 a0_7, .int .i64 a0_8]) (t := 134) ?hr ?_; (case hd => rfl); (case hg => rfl); (case hr => first | (go_simp; done) | (go_simp; rfl)); intro gb132 hg w6 hbox hb; have n0_ := Aside0.mk (xaP (by repeat (first | (with_reducible first | exact HB.out | apply xaB | apply xaA | apply xaC) | exact HB.out)) hb); have n1_ := Aside0.mk (hbox); have n2_ := Aside0.mk ((by rw [hg]; exact (xaR (by repeat (first | (with_reducible first | exact HB.out | apply xaB | apply xaA | apply xaC) | exact HB.out))) : w.heap.size ≤ gb132)); have n3_ := Aside0.mk ((by rw [hg]; exact (xaR (by repeat (first | (with_reducible first | exact HB.out | apply xaB | apply xaA | apply xaC) | exact HB.out))) : w.heap.size ≤ gb132)); clear HB; have HB := n0_; have BK132 := n1_; have GW132 := n2_; have GE132 := n3_; clear n0_ n1_ n2_ n3_; clear hb hbox hg; have hcz7_0 : w6.cell? ⟨gb132, 0, none⟩ = some (.int .i64 a0_0) := (xaE BK132.out 0).trans rfl; have hcz7_1 : w6.cell? ⟨gb132, 1, none⟩ = some (.int .i64 a0_1) := (xaE BK132.out 1).trans rfl; have hcz7_2 : w6.cell? ⟨gb132, 2, none⟩ = some (.int .i64 a0_2) := (xaE BK132.out 2).trans rfl; have hcz7_3 : w6.cell? ⟨gb132, 3, none⟩ = some (.int .i64 a0_3) := (xaE BK132.out 3).trans rfl; have hcz7_4 : w6.cell? ⟨gb132, 4, none⟩ = some (.int .i64 a0_4) := (xaE BK132.out 4).trans rfl; have hcz7_5 : w6.cell? ⟨gb132, 5, none⟩ = some (.int .i64 a0_5) := (xaE BK132.out 5).trans rfl; have hcz7_6 : w6.cell? ⟨gb132, 6, none⟩ = some (.int .i64 a0_6) := (xaE BK132.out 6).trans rfl; have hcz7_7 : w6.cell? ⟨gb132, 7, none⟩ = some (.int .i64 a0_7) := (xaE BK132.out 7).trans rfl; have hcz7_8 : w6.cell? ⟨gb132, 8, none⟩ = some (.int .i64 a0_8) := (xaE BK132.out 8).trans rfl; have hfz7_0 := xaD BK132.out 0; have hfz7_1 := xaD BK132.out 1; have hfz7_2 := xaD BK132.out 2; have hfz7_3 := xaD BK132.out 3; have hfz7_4 := xaD BK132.out 4; have hfz7_5 := xaD BK132.out 5; have hfz7_6 := xaD BK132.out 6; have hfz7_7 := xaD BK132.out 7; have hfz7_8 := xaD BK132.out 8) | (go_at_call 83; (with_reducible refine (xbL.calls a0_5 (-100) 100 true _ A3.out).mono ?_); rintro e w' ⟨rfl, ⟨nd, rfl⟩⟩) | (go_at_call 157; (with_reducible refine (xdC.calls a0_0 a0_1 a0_2 a0_3 a0_4 a0_5 a0_6 a0_7 a0_8 t134 _ A5.out).mono ?_); rintro e w8 ⟨rfl, hb⟩; have n0_ := Aside0.mk (xaY (g := gb132) (o := .cells #[.int .i64 a0_0, .int .i64 a0_1, .int .i64 a0_2, .int .i64 a0_3, .int .i64 a0_4, .int .i64 a0_5, .int .i64 a0_6, .int .i64 a0_7, .int .i64 a0_8] 134 (0, 0)) (by (with_reducible repeat (first | refine xaG ?_ _ | refine xaJ ?_ | refine xaH ?_ _)); exact BK132.out) hb); have n1_ := Aside0.mk (xaP (by repeat (first | (with_reducible first | exact HB.out | apply xaB | apply xaA | apply xaC | refine xaF ?_ GE132.out) | exact HB.out)) hb); clear BK132; clear HB; have BK132 := n0_; have HB := n1_; clear n0_ n1_; (try clear hb); (try clear hb2); (try clear hk); (try clear hi)))
   go_ret
   exact ⟨by first | rfl | (simp [xaL, xaK] <;> rfl) | (simp [*, xaL, xaK] <;> rfl), by repeat (first | (with_reducible first | exact HB.out | apply xaB | apply xaA | apply xaC | refine xaF ?_ GE132.out) | exact HB.out)⟩
  ·
   replace c4 := Bool.eq_false_iff.mpr c4;subst c4
   have H1 : (some false) = some r := by rw [if_neg (show ¬ (false = true) by decide)] at H; exact H
   clear H;have H := H1;clear H1
   obtain rfl := Option.some.inj H
   go_enter Try.func161, Try.ntmps161
   go_wp2_with (first | ((with_reducible refine xbM (N := 1) rfl ?_); refine xbJ ?hg (N := 1) ?hd (cs := #[.int .i64 a0_0, .int .i64 a0_1, .int .i64 a0_2, .int .i64 a0_3, .int .i64 a0_4, .int .i64 a0_5, .int .i64 a0_6, .int .i64 a0_7, .int .i64 a0_8]) (t := 134) ?hr ?_; (case hd => rfl); (case hg => rfl); (case hr => first | (go_simp; done) | (go_simp; rfl)); intro gb132 hg w9 hbox hb; have n0_ := Aside0.mk (xaP (by repeat (first | (with_reducible first | exact HB.out | apply xaB | apply xaA | apply xaC) | exact HB.out)) hb); have n1_ := Aside0.mk (hbox); have n2_ := Aside0.mk ((by rw [hg]; exact (xaR (by repeat (first | (with_reducible first | exact HB.out | apply xaB | apply xaA | apply xaC) | exact HB.out))) : w.heap.size ≤ gb132)); have n3_ := Aside0.mk ((by rw [hg]; exact (xaR (by repeat (first | (with_reducible first | exact HB.out | apply xaB | apply xaA | apply xaC) | exact HB.out))) : w.heap.size ≤ gb132)); clear HB; have HB := n0_; have BK132 := n1_; have GW132 := n2_; have GE132 := n3_; clear n0_ n1_ n2_ n3_; clear hb hbox hg; have hcz10_0 : w9.cell? ⟨gb132, 0, none⟩ = some (.int .i64 a0_0) := (xaE BK132.out 0).trans rfl; have hcz10_1 : w9.cell? ⟨gb132, 1, none⟩ = some (.int .i64 a0_1) := (xaE BK132.out 1).trans rfl; have hcz10_2 : w9.cell? ⟨gb132, 2, none⟩ = some (.int .i64 a0_2) := (xaE BK132.out 2).trans rfl; have hcz10_3 : w9.cell? ⟨gb132, 3, none⟩ = some (.int .i64 a0_3) := (xaE BK132.out 3).trans rfl; have hcz10_4 : w9.cell? ⟨gb132, 4, none⟩ = some (.int .i64 a0_4) := (xaE BK132.out 4).trans rfl; have hcz10_5 : w9.cell? ⟨gb132, 5, none⟩ = some (.int .i64 a0_5) := (xaE BK132.out 5).trans rfl; have hcz10_6 : w9.cell? ⟨gb132, 6, none⟩ = some (.int .i64 a0_6) := (xaE BK132.out 6).trans rfl; have hcz10_7 : w9.cell? ⟨gb132, 7, none⟩ = some (.int .i64 a0_7) := (xaE BK132.out 7).trans rfl; have hcz10_8 : w9.cell? ⟨gb132, 8, none⟩ = some (.int .i64 a0_8) := (xaE BK132.out 8).trans rfl; have hfz10_0 := xaD BK132.out 0; have hfz10_1 := xaD BK132.out 1; have hfz10_2 := xaD BK132.out 2; have hfz10_3 := xaD BK132.out 3; have hfz10_4 := xaD BK132.out 4; have hfz10_5 := xaD BK132.out 5; have hfz10_6 := xaD BK132.out 6; have hfz10_7 := xaD BK132.out 7; have hfz10_8 := xaD BK132.out 8) | (go_at_call 83; (with_reducible refine (xbL.calls a0_5 (-100) 100 false _ A3.out).mono ?_); rintro e w' ⟨rfl, ⟨nd, rfl⟩⟩))
   go_ret
   exact ⟨by first | rfl | (simp [xaL, xaK] <;> rfl) | (simp [*, xaL, xaK] <;> rfl), by repeat (first | (with_reducible first | exact HB.out | apply xaB | apply xaA | apply xaC | refine xaF ?_ GE132.out) | exact HB.out)⟩
 ·
  rw [if_neg c2] at H
  have c2b0 : ((Go.bits .or .i64 (Go.bits .or .i64 (Go.bits .or .i64 a0_1 a0_2) a0_3) a0_4) == 0) = false := beq_eq_false_iff_ne.mpr c2
  have c2b1 : ((Go.bits .or .i64 (Go.bits .or .i64 (Go.bits .or .i64 a0_1 a0_2) a0_3) a0_4) != 0) = true := bne_iff_ne.mpr c2
  obtain rfl := Option.some.inj H
  go_enter Try.func161, Try.ntmps161
  go_wp2_with (first | ((with_reducible refine xbM (N := 1) rfl ?_); refine xbJ ?hg (N := 1) ?hd (cs := #[.int .i64 a0_0, .int .i64 a0_1, .int .i64 a0_2, .int .i64 a0_3, .int .i64 a0_4, .int .i64 a0_5, .int .i64 a0_6, .int .i64 a0_7, .int .i64 a0_8]) (t := 134) ?hr ?_; (case hd => rfl); (case hg => rfl); (case hr => first | (go_simp; done) | (go_simp; rfl)); intro gb132 hg w11 hbox hb; have n0_ := Aside0.mk (xaP (by repeat (first | (with_reducible first | exact HB.out | apply xaB | apply xaA | apply xaC) | exact HB.out)) hb); have n1_ := Aside0.mk (hbox); have n2_ := Aside0.mk ((by rw [hg]; exact (xaR (by repeat (first | (with_reducible first | exact HB.out | apply xaB | apply xaA | apply xaC) | exact HB.out))) : w.heap.size ≤ gb132)); have n3_ := Aside0.mk ((by rw [hg]; exact (xaR (by repeat (first | (with_reducible first | exact HB.out | apply xaB | apply xaA | apply xaC) | exact HB.out))) : w.heap.size ≤ gb132)); clear HB; have HB := n0_; have BK132 := n1_; have GW132 := n2_; have GE132 := n3_; clear n0_ n1_ n2_ n3_; clear hb hbox hg; have hcz12_0 : w11.cell? ⟨gb132, 0, none⟩ = some (.int .i64 a0_0) := (xaE BK132.out 0).trans rfl; have hcz12_1 : w11.cell? ⟨gb132, 1, none⟩ = some (.int .i64 a0_1) := (xaE BK132.out 1).trans rfl; have hcz12_2 : w11.cell? ⟨gb132, 2, none⟩ = some (.int .i64 a0_2) := (xaE BK132.out 2).trans rfl; have hcz12_3 : w11.cell? ⟨gb132, 3, none⟩ = some (.int .i64 a0_3) := (xaE BK132.out 3).trans rfl; have hcz12_4 : w11.cell? ⟨gb132, 4, none⟩ = some (.int .i64 a0_4) := (xaE BK132.out 4).trans rfl; have hcz12_5 : w11.cell? ⟨gb132, 5, none⟩ = some (.int .i64 a0_5) := (xaE BK132.out 5).trans rfl; have hcz12_6 : w11.cell? ⟨gb132, 6, none⟩ = some (.int .i64 a0_6) := (xaE BK132.out 6).trans rfl; have hcz12_7 : w11.cell? ⟨gb132, 7, none⟩ = some (.int .i64 a0_7) := (xaE BK132.out 7).trans rfl; have hcz12_8 : w11.cell? ⟨gb132, 8, none⟩ = some (.int .i64 a0_8) := (xaE BK132.out 8).trans rfl; have hfz12_0 := xaD BK132.out 0; have hfz12_1 := xaD BK132.out 1; have hfz12_2 := xaD BK132.out 2; have hfz12_3 := xaD BK132.out 3; have hfz12_4 := xaD BK132.out 4; have hfz12_5 := xaD BK132.out 5; have hfz12_6 := xaD BK132.out 6; have hfz12_7 := xaD BK132.out 7; have hfz12_8 := xaD BK132.out 8))
  go_ret
  exact ⟨by first | rfl | (simp [xaL, xaK] <;> rfl) | (simp [*, xaL, xaK] <;> rfl), by repeat (first | (with_reducible first | exact HB.out | apply xaB | apply xaA | apply xaC | refine xaF ?_ GE132.out) | exact HB.out)⟩
end Go.Proofs.Ytoncignjcgjhhaa.Q
namespace Go.Proofs.Ytoncignjcgjhhaa.L
open Go.RowKit Go.Proofs.YtoncignjcgjhhaaW.PrintWords Go.Proofs.YtoncignjcgjhhaaW.PrintLast Go.Proofs.YtoncignjcgjhhaaW.PrintMore
open Go.Proofs.Ytoncignjcgjhhaa.Q
theorem w64 {x : Int} (h0 : -9223372036854775808 ≤ x) (h1 : x ≤ 9223372036854775807) : wrap64 x = x := by unfold wrap64; omega
theorem td {a b : Int} (h : 0 ≤ a) : Int.tdiv a b = a / b := Int.tdiv_eq_ediv_of_nonneg h
theorem tm {a b : Int} (h : 0 ≤ a) : Int.tmod a b = a % b := Int.tmod_eq_emod_of_nonneg h
theorem tm0 (a b : Int) : Int.tmod a b = 0 ↔ a % b = 0 := ⟨fun h => Int.emod_eq_zero_of_dvd (Int.dvd_of_tmod_eq_zero h), fun h => Int.tmod_eq_zero_of_dvd (Int.dvd_of_emod_eq_zero h)⟩
theorem within (a b c : Int) : xbL.f a b c = some (decide (b ≤ a ∧ a ≤ c)) := by
 unfold xbL.f
 by_cases h : a ≥ b
 ·
  rw [if_pos h]; simp [h]
 ·
  rw [if_neg h]; simp; omega
theorem leap (y : Int) : xdX.f y = some (M.leap y) := by
 unfold xdX.f M.leap
 simp only [tm0]
 by_cases h4 : y % 4 = 0
 ·
  rw [if_pos h4]
  by_cases h100 : y % 100 = 0
  ·
   rw [if_pos h100]
   by_cases h400 : y % 400 = 0
   ·
    have : Int.tmod y 400 = 0 := (tm0 y 400).2 h400
    simp [h4, h400, this]
   ·
    have : ¬ Int.tmod y 400 = 0 := fun e => h400 ((tm0 y 400).1 e)
    simp [h4, h100, h400, this]
  ·
   rw [if_neg h100]; simp [h4, h100]
 ·
  rw [if_neg h4]; simp [h4]
theorem length (y m : Int) : xcS.f y m = some (M.mlen y m) := by
 unfold xcS.f M.mlen
 rw [leap]
 by_cases h2 : m = 2
 ·
  rw [if_pos h2, if_pos h2]; cases M.leap y <;> rfl
 ·
  rw [if_neg h2, if_neg h2]; repeat' split
  all_goals rfl
theorem Length (y m : Int) : xdL.f y m = some (if 1900 ≤ y ∧ y ≤ 2199 ∧ 1 ≤ m ∧ m ≤ 12 then (M.mlen y m, 0) else (0, 50)) := by
 have hm : xdE.f y m = some (decide (1900 ≤ y ∧ y ≤ 2199 ∧ 1 ≤ m ∧ m ≤ 12)) := by
  unfold xdE.f
  repeat' split
  all_goals first | (congr 1; rw [decide_eq_decide]; omega) | (congr 1; symm; rw [decide_eq_false_iff_not]; omega)
 unfold xdL.f
 rw [hm, length]
 by_cases h : 1900 ≤ y ∧ y ≤ 2199 ∧ 1 ≤ m ∧ m ≤ 12 <;> simp [h]
theorem before (y : Int) (h0 : 1 ≤ y) (h1 : y ≤ 3000) : xdK.f y = some (M.before y) := by
 unfold xdK.f M.before
 simp (disch := omega) only [w64, td]
theorem day_l (y m n : Int) (hn : -1000000 ≤ n) (hn1 : n ≤ 2000000) (hm : 1 ≤ m) (hm1 : m ≤ 12) : ∀ (d : Nat) (i : Int), 0 ≤ i → i ≤ m - 1 → m - 1 - i = d →
  Ev (fun k => xdJ.l0 k y (n + M.cum y (i + 1)) (m - 1) i) (n + M.cum y m)
 | 0, i, a, b, c => by
  refine Ev.step (f := fun _ => some (n + M.cum y m)) (fun k => ?_) (Ev.now _)
  simp only [xdJ.l0]
  rw [if_neg (by omega), show i + 1 = m from by omega]
 | d + 1, i, a, b, c => by
  have ih := day_l y m n hn hn1 hm hm1 d (i + 1) (by omega) (by omega) (by omega)
  refine Ev.step (fun k => ?_) ih
  simp only [xdJ.l0]
  have r := M.xgT y (i + 1)
  have l := M.xeH y (i + 1)
  have s := M.xfZ y (i + 1) (by omega) (by omega)
  rw [if_pos (by omega), w64 (by omega) (by omega), length]
  simp only [Option.bind_some]
  rw [w64 (by omega) (by omega), show n + M.cum y (i + 1) + M.mlen y (i + 1) = n + M.cum y (i + 1 + 1) from by omega]
theorem xeG (y : Int) (h0 : 1 ≤ y) (h1 : y ≤ 3000) : -800000 ≤ M.before y ∧ M.before y ≤ 500000 := by unfold M.before; omega
theorem day (y m d : Int) (h0 : 1 ≤ y) (h1 : y ≤ 3000) (hm : 1 ≤ m) (hm1 : m ≤ 12) (hd : -1000 ≤ d) (hd1 : d ≤ 1000) : Ev (fun k => xdJ.f k y m d) (M.dayOf y m d) := by
 have hb := xeG y h0 h1
 have h := day_l y m (M.before y + d - 1) (by omega) (by omega) hm hm1 (m - 1).toNat 0 (by omega) (by omega) (by omega)
 refine Ev.congr (fun k => ?_) (by rw [show M.dayOf y m d = M.before y + d - 1 + M.cum y m from by unfold M.dayOf; omega]; exact h)
 unfold xdJ.f
 rw [before y h0 h1]
 simp only [Option.bind_some]
 rw [w64 (x := M.before y + d) (by omega) (by omega), w64 (x := M.before y + d - 1) (by omega) (by omega), w64 (x := m - 1) (by omega) (by omega), show M.cum y (0 + 1) = 0 from M.cum_1 y, Int.add_zero]
theorem Of (y m d : Int) : Ev (fun k => xeP.f k y m d) (if M.isDate y m d then (M.dayOf y m d, 0) else (0, 50)) := by
 have hm : xdE.f y m = some (decide (1900 ≤ y ∧ y ≤ 2199 ∧ 1 ≤ m ∧ m ≤ 12)) := by
  unfold xdE.f
  repeat' split
  all_goals first | (congr 1; rw [decide_eq_decide]; omega) | (congr 1; symm; rw [decide_eq_false_iff_not]; omega)
 have hl := M.xeH y m
 by_cases h : M.isDate y m d
 ·
  rw [if_pos h]
  obtain ⟨a, b, c, e, f, g⟩ := h
  have hd := day y m d (by omega) (by omega) c e (by omega) (by omega)
  have hd2 := Ev.bind (f := fun _ t => some (t, (0 : Int))) hd (Ev.now _)
  refine Ev.congr (fun k => ?_) hd2
  unfold xeP.f
  rw [hm, length]
  simp only [Option.bind_some, a, b, c, e, and_self, decide_true, if_true]
  rw [if_neg (by omega), if_neg (by omega)]
 ·
  rw [if_neg h]
  refine Ev.congr (fun k => ?_) (Ev.now _)
  unfold xeP.f
  rw [hm, length]
  simp only [Option.bind_some]
  by_cases h2 : 1900 ≤ y ∧ y ≤ 2199 ∧ 1 ≤ m ∧ m ≤ 12
  ·
   rw [if_pos (by simp [h2])]
   by_cases h3 : d < 1
   ·
    rw [if_pos h3]
   ·
    rw [if_neg h3, if_pos (by rcases Int.lt_or_le (M.mlen y m) d with h5 | h5; exact h5; exact absurd ⟨h2.1, h2.2.1, h2.2.2.1, h2.2.2.2, by omega, h5⟩ h)]
  ·
   rw [if_neg (by simpa using h2)]
end Go.Proofs.Ytoncignjcgjhhaa.L
namespace Go.Proofs.Ytoncignjcgjhhaa.L
open Go.RowKit Go.Proofs.YtoncignjcgjhhaaW.PrintWords Go.Proofs.YtoncignjcgjhhaaW.PrintLast Go.Proofs.YtoncignjcgjhhaaW.PrintMore
open Go.Proofs.Ytoncignjcgjhhaa.Q
def i64 (x : Int) : Prop := -9223372036854775808 ≤ x ∧ x ≤ 9223372036854775807
theorem ofInt0 {x : Int} (h : i64 x) : BitVec.ofInt 64 x = 0#64 ↔ x = 0 := by
 unfold i64 at h
 constructor
 ·
  intro e
  have := congrArg BitVec.toInt e
  rw [BitVec.toInt_ofInt] at this
  simp only [Int.bmod] at this
  simp at this
  omega
 ·
  rintro rfl; rfl
theorem wrap_i64 (n : Nat) (h : n < 18446744073709551616) : IntKind.i64.wrap (n : Int) = if 9223372036854775808 ≤ (n : Int) then (n : Int) - 18446744073709551616 else n := by
 have hb : IntKind.i64.bits = 64 := rfl
 have hs : IntKind.i64.signed = true := rfl
 unfold IntKind.wrap
 rw [hb, hs]
 simp only [Bool.true_and, decide_eq_true_eq]
 have e : (n : Int) % 2 ^ 64 = n := by omega
 rw [e]
 simp
theorem or_eq (x y : Int) : bits .or .i64 x y = IntKind.i64.wrap ((BitVec.ofInt 64 x ||| BitVec.ofInt 64 y).toNat : Int) := rfl
theorem or_i64 (x y : Int) : i64 (bits .or .i64 x y) := by
 rw [or_eq, wrap_i64 _ (BitVec.isLt _)]
 have := (BitVec.ofInt 64 x ||| BitVec.ofInt 64 y).isLt
 unfold i64
 split <;> omega
theorem or0 {x y : Int} (hx : i64 x) (hy : i64 y) : bits .or .i64 x y = 0 ↔ x = 0 ∧ y = 0 := by
 rw [or_eq, wrap_i64 _ (BitVec.isLt _)]
 have hl := (BitVec.ofInt 64 x ||| BitVec.ofInt 64 y).isLt
 rw [← ofInt0 hx, ← ofInt0 hy]
 constructor
 ·
  intro h
  have h0 : (BitVec.ofInt 64 x ||| BitVec.ofInt 64 y).toNat = 0 := by
   split at h <;> omega
  have h1 : BitVec.ofInt 64 x ||| BitVec.ofInt 64 y = 0#64 := BitVec.eq_of_toNat_eq (by simpa using h0)
  exact BitVec.or_eq_zero_iff.1 h1
 ·
  rintro ⟨a, b⟩
  rw [a, b]; rfl
variable {a0 a1 a2 a3 a4 a5 a6 a7 a8 : Int}
theorem years : xdC.f a0 a1 a2 a3 a4 a5 a6 a7 a8 = some (M.xfA ⟨a0, a1, a2, a3, a4, a5, a6, a7, a8⟩) := by
 unfold xdC.f M.xfA
 simp only [within, Option.bind_some]
 by_cases h1 : 1900 ≤ a6 ∧ a6 ≤ 2199
 ·
  rw [if_pos (by simpa using h1)]
  by_cases h2 : a6 ≤ a7 ∧ a7 ≤ 2199
  ·
   rw [if_pos (by simpa using h2)]; congr 1; rw [decide_eq_decide]; omega
  ·
   rw [if_neg (by simpa using h2)]; congr 1; symm; rw [decide_eq_false_iff_not]; omega
 ·
  rw [if_neg (by simpa using h1)]; congr 1; symm; rw [decide_eq_false_iff_not]; omega
theorem may_fixed (h3 : i64 a3) (h4 : i64 a4) (h5 : i64 a5) (k : Nat) : xcT.f (k + 1) 1 a1 a2 a3 a4 a5 a6 a7 a8 = some (M.may ⟨1, a1, a2, a3, a4, a5, a6, a7, a8⟩) := by
 have ho : bits .or .i64 (bits .or .i64 a3 a4) a5 = 0 ↔ (a3 = 0 ∧ a4 = 0) ∧ a5 = 0 := by rw [or0 (or_i64 _ _) h5, or0 h3 h4]
 have hL := Length 2000 a1
 unfold xcT.f M.may
 simp only [xcT.j0, within, years, Option.bind_some, if_true]
 by_cases h1 : 1 ≤ a1 ∧ a1 ≤ 12
 ·
  rw [if_pos (by simpa using h1)]
  by_cases hz : (a3 = 0 ∧ a4 = 0) ∧ a5 = 0
  ·
   have hz' : (bits .or .i64 (bits .or .i64 a3 a4) a5 != 0) = false := by rw [ho.2 hz]; rfl
   rw [if_pos (show 1900 ≤ (2000 : Int) ∧ (2000 : Int) ≤ 2199 ∧ 1 ≤ a1 ∧ a1 ≤ 12 from ⟨by omega, by omega, h1.1, h1.2⟩)] at hL
   rw [hz', hL]
   simp only [Option.bind_some, Bool.false_eq_true, if_false]
   by_cases h2 : 1 ≤ a2 ∧ a2 ≤ M.mlen 2000 a1
   ·
    rw [if_pos (by simpa using h2)]; congr 1; simp [h1, h2, hz]
   ·
    rw [if_neg (by simpa using h2)]; congr 1; symm; rw [Bool.and_eq_false_iff]; left; rw [decide_eq_false_iff_not]; omega
  ·
   have hz' : (bits .or .i64 (bits .or .i64 a3 a4) a5 != 0) = true := by rw [bne_iff_ne]; exact fun e => hz (ho.1 e)
   rw [hz', if_pos rfl]; congr 1; symm; rw [Bool.and_eq_false_iff]; left; rw [decide_eq_false_iff_not]; omega
 ·
  rw [if_neg (by simpa using h1)]; congr 1; symm; rw [Bool.and_eq_false_iff]; left; rw [decide_eq_false_iff_not]; omega
theorem may_nth (h2 : i64 a2) (h5 : i64 a5) : xfV.f 2 a1 a2 a3 a4 a5 a6 a7 a8 = some (M.may ⟨2, a1, a2, a3, a4, a5, a6, a7, a8⟩) := by
 have ho : bits .or .i64 a2 a5 = 0 ↔ a2 = 0 ∧ a5 = 0 := or0 h2 h5
 unfold xfV.f M.may
 simp only [within, years, Option.bind_some, if_true, show ¬ ((2 : Int) = 1) from by decide, if_false]
 have no : ∀ {p : Prop} [Decidable p] {b : Bool}, ¬ p → some false = some (decide p && b) := by intro p _ b h; simp [h]
 by_cases hz : a2 = 0 ∧ a5 = 0
 ·
  rw [if_pos (ho.2 hz)]
  by_cases h1 : 1 ≤ a1 ∧ a1 ≤ 12
  ·
   rw [if_pos (by simpa using h1)]
   by_cases h4 : 0 ≤ a4 ∧ a4 ≤ 6
   ·
    rw [if_pos (by simpa using h4)]
    by_cases h3 : 1 ≤ a3 ∧ a3 ≤ 5
    ·
     rw [if_pos (by simpa using h3)]; congr 1; simp [h1, h3, h4, hz]
    ·
     rw [if_neg (by simpa using h3)]; exact no (by omega)
   ·
    rw [if_neg (by simpa using h4)]; exact no (by omega)
  ·
   rw [if_neg (by simpa using h1)]; exact no (by omega)
 ·
  rw [if_neg (fun e => hz (ho.1 e))]; exact no (by omega)
theorem may_easter (h1 : i64 a1) (h2 : i64 a2) (h3 : i64 a3) (h4 : i64 a4) : xeV.f 3 a1 a2 a3 a4 a5 a6 a7 a8 = some (M.may ⟨3, a1, a2, a3, a4, a5, a6, a7, a8⟩) := by
 have ho : bits .or .i64 (bits .or .i64 (bits .or .i64 a1 a2) a3) a4 = 0 ↔ ((a1 = 0 ∧ a2 = 0) ∧ a3 = 0) ∧ a4 = 0 := by rw [or0 (or_i64 _ _) h4, or0 (or_i64 _ _) h3, or0 h1 h2]
 unfold xeV.f M.may
 simp only [within, years, Option.bind_some, if_true, show ¬ ((3 : Int) = 1) from by decide, show ¬ ((3 : Int) = 2) from by decide, if_false]
 have no : ∀ {p : Prop} [Decidable p] {b : Bool}, ¬ p → some false = some (decide p && b) := by intro p _ b h; simp [h]
 by_cases hz : ((a1 = 0 ∧ a2 = 0) ∧ a3 = 0) ∧ a4 = 0
 ·
  rw [if_pos (ho.2 hz)]
  by_cases h5 : -100 ≤ a5 ∧ a5 ≤ 100
  ·
   rw [if_pos (by simpa using h5)]; congr 1; simp [h5, hz]
  ·
   rw [if_neg (by simpa using h5)]; exact no (by omega)
 ·
  rw [if_neg (fun e => hz (ho.1 e))]; exact no (by omega)
end Go.Proofs.Ytoncignjcgjhhaa.L
namespace Go.Proofs.Ytoncignjcgjhhaa.H
open Go.RowKit Go.Maps Go.Proofs.YtoncignjcgjhhaaW.PrintWords Go.Proofs.YtoncignjcgjhhaaW.PrintLast Go.Proofs.YtoncignjcgjhhaaW.PrintMore
theorem xhX (y m : Int) (b : Bool) (hb : decide (1900 ≤ y ∧ y ≤ 2199 ∧ 1 ≤ m ∧ m ≤ 12) = b) (w : World) : Calls Try.prog 121 #[.int .i64 y, .int .i64 m] w fun e w' => e = .returned (.bool b) ∧ Drawn0 w w' := by
 refine Q.xdE.calls y m b w ?_
 rw [← hb]
 unfold Q.xdE.f
 repeat' split
 all_goals first | (congr 1; rw [decide_eq_decide]; omega) | (congr 1; symm; rw [decide_eq_false_iff_not]; omega)
theorem day_calls (y m d : Int) (h0 : 1 ≤ y) (h1 : y ≤ 3000) (hm : 1 ≤ m) (hm1 : m ≤ 12) (hd : -1000 ≤ d) (hd1 : d ≤ 1000) (w : World) :
  Calls Try.prog 123 #[.int .i64 y, .int .i64 m, .int .i64 d] w fun e w' => e = .returned (.int .i64 (M.dayOf y m d)) ∧ Drawn0 w w' := by
 obtain ⟨k, hk⟩ := (L.day y m d h0 h1 hm hm1 hd hd1).rounds
 exact Q.xdJ.calls k y m d _ w hk
theorem easter_day (y m d : Int) (h0 : 1900 ≤ y) (h1 : y ≤ 2199) (em : m = M.eT y / 31) (ed : d = M.eT y % 31 + 1) (w : World) :
  Calls Try.prog 123 #[.int .i64 y, .int .i64 m, .int .i64 d] w fun e w' => e = .returned (.int .i64 (M.xdH y)) ∧ Drawn0 w w' := by
 obtain ⟨⟨a, b, c, e, f, g⟩, _⟩ := M.xfT y h0 h1
 have := M.xeH y (M.eT y / 31)
 subst em ed
 exact day_calls _ _ _ (by omega) (by omega) c e (by omega) (by omega) w
theorem m4 (y : Int) : y % 100 % 4 = y % 4 := by omega
set_option maxHeartbeats 1000000 in
set_option maxRecDepth 100000 in
theorem easter_yes (y : Int) (h0 : 1900 ≤ y) (h1 : y ≤ 2199) (w : World) :
  Calls Try.prog 162 #[.int .i64 y] w fun e w' => e = .returned (.tuple #[.int .i64 (M.xdH y), .int .i64 0]) ∧ Drawn0 w w' := by
 go_enter Try.func162, Try.ntmps162
 go_wp2_with (first | (go_at_call 121; refine (xhX _ _ true (by simp; omega) _).mono ?_; rintro e w' ⟨rfl, ⟨n, rfl⟩⟩))
 refine (easter_day y _ _ h0 h1 ?_ ?_ _).mono ?_
 ·
  simp only [M.eT, m4]
 ·
  simp only [M.eT, m4]
 rintro e w' ⟨rfl, ⟨n2, rfl⟩⟩
 go_wp2_with fail
 go_ret2
 exact ⟨rfl, by repeat (first | exact Drawn0.refl _ | apply Drawn0.step)⟩
theorem easter_no (y : Int) (h : ¬ (1900 ≤ y ∧ y ≤ 2199)) (w : World) :
  Calls Try.prog 162 #[.int .i64 y] w fun e w' => e = .returned (.tuple #[.int .i64 0, .int .i64 50]) ∧ Drawn0 w w' := by
 have H := Aside0.mk h; clear h
 go_enter Try.func162, Try.ntmps162
 go_wp2_with (first | (go_at_call 121; refine (xhX _ _ false (by have := H.out; simp; omega) _).mono ?_; rintro e w' ⟨rfl, ⟨n, rfl⟩⟩))
 go_ret2
 exact ⟨rfl, by repeat (first | exact Drawn0.refl _ | apply Drawn0.step)⟩
def xgA (y : Int) : Int × Int := if 1900 ≤ y ∧ y ≤ 2199 then (M.xdH y, 0) else (0, 50)
theorem easter_calls (y : Int) (w : World) : Calls Try.prog 162 #[.int .i64 y] w fun e w' => e = .returned (.tuple #[.int .i64 (xgA y).1, .int .i64 (xgA y).2]) ∧ Drawn0 w w' := by
 unfold xgA
 by_cases h : 1900 ≤ y ∧ y ≤ 2199
 ·
  rw [if_pos h]; exact easter_yes y h.1 h.2 w
 ·
  rw [if_neg h]; exact easter_no y h w
end Go.Proofs.Ytoncignjcgjhhaa.H
namespace Go.Proofs.Ytoncignjcgjhhaa.Q
open Go.RowKit Go.Proofs.YtoncignjcgjhhaaW.PrintWords Go.Proofs.YtoncignjcgjhhaaW.PrintLast Go.Proofs.YtoncignjcgjhhaaW.PrintMore
attribute [local go_sem] xcC xcB xcR xcQ xbX xbW xcF xcE   -- for this text's walks alone
def xfJ.f (a0 : Int) : Option (Int × Int) := some (Go.Proofs.Ytoncignjcgjhhaa.H.xgA a0)
theorem xfJ.calls (a0 : Int) (r1 : Int) (r2 : Int) (w : World) (h : xfJ.f a0 = some (r1, r2)) :
  Calls Try.prog 162 #[.int .i64 a0] w fun e w' => e = .returned (.tuple #[.int .i64 r1, .int .i64 r2]) ∧ Drawn0 w w' := by
 have e := Option.some.inj h;have c := Go.Proofs.Ytoncignjcgjhhaa.H.easter_calls a0 w
 rw [e] at c
 exact c
end Go.Proofs.Ytoncignjcgjhhaa.Q
