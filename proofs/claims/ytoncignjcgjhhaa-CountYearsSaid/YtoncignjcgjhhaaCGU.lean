/- Contracts and facts of functions of the program (calendar, dates and their documents), joined in one text by a program of this session. No condition but what each theorem states. -/
import Derived.Test.YtoncignjcgjhhaaCGA
import Derived.Test.YtoncignjcgjhhaaCGT
import Derived.Laws.Cover2
import Derived.Laws.Externs
set_option linter.unusedVariables false
set_option linter.unusedSimpArgs false
namespace Go.Proofs.Ytoncignjcgjhhaa.Q
open Go.RowKit Go.Proofs.YtoncignjcgjhhaaW.PrintWords Go.Proofs.YtoncignjcgjhhaaW.PrintLast Go.Proofs.YtoncignjcgjhhaaW.PrintMore
attribute [local go_sem] xcC xcB xcR xcQ xbX xbW xcF xcE   -- for this text's walks alone
def xdZ.f (a0 : Int) (a1_0 : Int) (l1_1 : List (S63)) (a2 : Int) (a3 : Int) : Option (Bool) := if a0 = 6 then (if (l1_1.length : Int) ≤ 12 then (if (l1_1.length : Int) = 0 then (some true) else (if a2 < 0 then (some true) else (if a3 < 0 then (some true) else (if a2 > 109572 then (some true) else (if a3 > 109572 then (some true) else (if (wrap64 (a2 - a3)) ≤ 800 then (some (decide ((wrap64 (a3 - a2)) ≤ 800))) else (some false))))))) else (some false)) else (some true)
set_option maxHeartbeats 8000000 in
set_option maxRecDepth 100000 in
theorem xdZ.calls (a0 : Int) (a1_0 : Int) (A1_1 : Option Addr) (c1_1 : Nat) (l1_1 : List (S63)) (a2 : Int) (a3 : Int) (r : Bool) (w : World) (hr1_1 : Kd.C k63 w A1_1 l1_1.length l1_1) (hc1_1 : l1_1.length ≤ c1_1) (h : xdZ.f a0 a1_0 l1_1 a2 a3 = some r) :
  Calls Try.prog 25 #[.int .i64 a0, .agg #[.int .i64 a1_0, .slice A1_1 l1_1.length c1_1], .int .i64 a2, .int .i64 a3] w fun e w' => e = .returned (.bool r) ∧ Below w.heap.size w w' := by
 have hu24 := Try.underlying24;have HR1_1 := Aside0.mk hr1_1;have HC1_1 := Aside0.mk hc1_1;clear hr1_1 hc1_1
 have HB := Aside0.mk (Below.refl w.heap.size w)
 have H : (if a0 = 6 then (if (l1_1.length : Int) ≤ 12 then (if (l1_1.length : Int) = 0 then (some true) else (if a2 < 0 then (some true) else (if a3 < 0 then (some true) else (if a2 > 109572 then (some true) else (if a3 > 109572 then (some true) else (if (wrap64 (a2 - a3)) ≤ 800 then (some (decide ((wrap64 (a3 - a2)) ≤ 800))) else (some false))))))) else (some false)) else (some true)) = some r := h
 clear h
 by_cases c5 : a0 = 6
 ·
  rw [if_pos c5] at H
  have c5b0 : (a0 == 6) = true := beq_iff_eq.mpr c5
  have c5b1 : (a0 != 6) = false := bne_eq_false_iff_eq.mpr c5
  clear c5
  by_cases c6 : (l1_1.length : Int) ≤ 12
  ·
   rw [if_pos c6] at H
   have c6b0 : decide ((l1_1.length : Int) ≤ 12) = true := decide_eq_true c6
   have c6b1 : decide (l1_1.length ≤ 12) = true := decide_eq_true (by omega)
   clear c6
   by_cases c7 : (l1_1.length : Int) = 0
   ·
    rw [if_pos c7] at H
    have c7b0 : ((l1_1.length : Int) == 0) = true := beq_iff_eq.mpr c7
    have c7b1 : ((l1_1.length : Int) != 0) = false := bne_eq_false_iff_eq.mpr c7
    clear c7
    obtain rfl := Option.some.inj H
    go_enter Try.func25, Try.ntmps25
    go_wp2_with (first | ((with_reducible refine xbM (N := 5) rfl ?_); (try (refine xeL (by rfl) ?_; dsimp only)); refine xbJ ?hg (N := 5) ?hd (cs := #[.int .i64 a1_0, .slice A1_1 l1_1.length c1_1]) (t := 24) ?hr ?_; (case hd => rfl); (case hg => rfl); (case hr => first | (go_simp; done) | (go_simp; rfl)); intro gb153 hg w8 hbox hb; have n0_ := Aside0.mk (xaP (by repeat (first | (with_reducible first | exact HB.out | apply xaB | apply xaA | apply xaC) | exact HB.out)) hb); have n1_ := Aside0.mk (hbox); have n2_ := Aside0.mk ((by rw [hg]; exact (xaR (by repeat (first | (with_reducible first | exact HB.out | apply xaB | apply xaA | apply xaC) | exact HB.out))) : w.heap.size ≤ gb153)); have n3_ := Aside0.mk ((by rw [hg]; exact (xaR (by repeat (first | (with_reducible first | exact HB.out | apply xaB | apply xaA | apply xaC) | exact HB.out))) : w.heap.size ≤ gb153)); clear HB; have HB := n0_; have BK153 := n1_; have GW153 := n2_; have GE153 := n3_; clear n0_ n1_ n2_ n3_; clear hb hbox hg; have hcz9_0 : w8.cell? ⟨gb153, 0, none⟩ = some (.int .i64 a1_0) := (xaE BK153.out 0).trans rfl; have hcz9_1 : w8.cell? ⟨gb153, 1, none⟩ = some (.slice A1_1 l1_1.length c1_1) := (xaE BK153.out 1).trans rfl; have hfz9_0 := xaD BK153.out 0; have hfz9_1 := xaD BK153.out 1))
    go_ret
    exact ⟨by first | rfl | (simp [xaL, xaK] <;> rfl) | (simp [*, xaL, xaK] <;> rfl), by repeat (first | (with_reducible first | exact HB.out | apply xaB | apply xaA | apply xaC | refine xaF ?_ GE153.out) | exact HB.out)⟩
   ·
    rw [if_neg c7] at H
    have c7b0 : ((l1_1.length : Int) == 0) = false := beq_eq_false_iff_ne.mpr c7
    have c7b1 : ((l1_1.length : Int) != 0) = true := bne_iff_ne.mpr c7
    have c7b2 : ¬ (l1_1 = []) := fun h_ => c7 (by rw [h_]; rfl)
    by_cases c10 : a2 < 0
    ·
     rw [if_pos c10] at H
     have c10b0 : decide (a2 < 0) = true := decide_eq_true c10
     clear c10
     obtain rfl := Option.some.inj H
     go_enter Try.func25, Try.ntmps25
     go_wp2_with (first | ((with_reducible refine xbM (N := 5) rfl ?_); (try (refine xeL (by rfl) ?_; dsimp only)); refine xbJ ?hg (N := 5) ?hd (cs := #[.int .i64 a1_0, .slice A1_1 l1_1.length c1_1]) (t := 24) ?hr ?_; (case hd => rfl); (case hg => rfl); (case hr => first | (go_simp; done) | (go_simp; rfl)); intro gb153 hg w11 hbox hb; have n0_ := Aside0.mk (xaP (by repeat (first | (with_reducible first | exact HB.out | apply xaB | apply xaA | apply xaC) | exact HB.out)) hb); have n1_ := Aside0.mk (hbox); have n2_ := Aside0.mk ((by rw [hg]; exact (xaR (by repeat (first | (with_reducible first | exact HB.out | apply xaB | apply xaA | apply xaC) | exact HB.out))) : w.heap.size ≤ gb153)); have n3_ := Aside0.mk ((by rw [hg]; exact (xaR (by repeat (first | (with_reducible first | exact HB.out | apply xaB | apply xaA | apply xaC) | exact HB.out))) : w.heap.size ≤ gb153)); clear HB; have HB := n0_; have BK153 := n1_; have GW153 := n2_; have GE153 := n3_; clear n0_ n1_ n2_ n3_; clear hb hbox hg; have hcz12_0 : w11.cell? ⟨gb153, 0, none⟩ = some (.int .i64 a1_0) := (xaE BK153.out 0).trans rfl; have hcz12_1 : w11.cell? ⟨gb153, 1, none⟩ = some (.slice A1_1 l1_1.length c1_1) := (xaE BK153.out 1).trans rfl; have hfz12_0 := xaD BK153.out 0; have hfz12_1 := xaD BK153.out 1))
     go_ret
     exact ⟨by first | rfl | (simp [xaL, xaK] <;> rfl) | (simp [*, xaL, xaK] <;> rfl), by repeat (first | (with_reducible first | exact HB.out | apply xaB | apply xaA | apply xaC | refine xaF ?_ GE153.out) | exact HB.out)⟩
    ·
     rw [if_neg c10] at H
     have c10b0 : decide (a2 < 0) = false := decide_eq_false c10
     clear c10
     by_cases c13 : a3 < 0
     ·
      rw [if_pos c13] at H
      have c13b0 : decide (a3 < 0) = true := decide_eq_true c13
      clear c13
      obtain rfl := Option.some.inj H
      go_enter Try.func25, Try.ntmps25
      go_wp2_with (first | ((with_reducible refine xbM (N := 5) rfl ?_); (try (refine xeL (by rfl) ?_; dsimp only)); refine xbJ ?hg (N := 5) ?hd (cs := #[.int .i64 a1_0, .slice A1_1 l1_1.length c1_1]) (t := 24) ?hr ?_; (case hd => rfl); (case hg => rfl); (case hr => first | (go_simp; done) | (go_simp; rfl)); intro gb153 hg w14 hbox hb; have n0_ := Aside0.mk (xaP (by repeat (first | (with_reducible first | exact HB.out | apply xaB | apply xaA | apply xaC) | exact HB.out)) hb); have n1_ := Aside0.mk (hbox); have n2_ := Aside0.mk ((by rw [hg]; exact (xaR (by repeat (first | (with_reducible first | exact HB.out | apply xaB | apply xaA | apply xaC) | exact HB.out))) : w.heap.size ≤ gb153)); have n3_ := Aside0.mk ((by rw [hg]; exact (xaR (by repeat (first | (with_reducible first | exact HB.out | apply xaB | apply xaA | apply xaC) | exact HB.out))) : w.heap.size ≤ gb153)); clear HB; have HB := n0_; have BK153 := n1_; have GW153 := n2_; have GE153 := n3_; clear n0_ n1_ n2_ n3_; clear hb hbox hg; have hcz15_0 : w14.cell? ⟨gb153, 0, none⟩ = some (.int .i64 a1_0) := (xaE BK153.out 0).trans rfl; have hcz15_1 : w14.cell? ⟨gb153, 1, none⟩ = some (.slice A1_1 l1_1.length c1_1) := (xaE BK153.out 1).trans rfl; have hfz15_0 := xaD BK153.out 0; have hfz15_1 := xaD BK153.out 1))
      go_ret
      exact ⟨by first | rfl | (simp [xaL, xaK] <;> rfl) | (simp [*, xaL, xaK] <;> rfl), by repeat (first | (with_reducible first | exact HB.out | apply xaB | apply xaA | apply xaC | refine xaF ?_ GE153.out) | exact HB.out)⟩
     ·
      rw [if_neg c13] at H
      have c13b0 : decide (a3 < 0) = false := decide_eq_false c13
      clear c13
      by_cases c16 : a2 > 109572
      ·
       rw [if_pos c16] at H
       have c16b0 : decide (109572 < a2) = true := decide_eq_true c16
       clear c16
       obtain rfl := Option.some.inj H
       go_enter Try.func25, Try.ntmps25
       go_wp2_with (first | ((with_reducible refine xbM (N := 5) rfl ?_); (try (refine xeL (by rfl) ?_; dsimp only)); refine xbJ ?hg (N := 5) ?hd (cs := #[.int .i64 a1_0, .slice A1_1 l1_1.length c1_1]) (t := 24) ?hr ?_; (case hd => rfl); (case hg => rfl); (case hr => first | (go_simp; done) | (go_simp; rfl)); intro gb153 hg w17 hbox hb; have n0_ := Aside0.mk (xaP (by repeat (first | (with_reducible first | exact HB.out | apply xaB | apply xaA | apply xaC) | exact HB.out)) hb); have n1_ := Aside0.mk (hbox); have n2_ := Aside0.mk ((by rw [hg]; exact (xaR (by repeat (first | (with_reducible first | exact HB.out | apply xaB | apply xaA | apply xaC) | exact HB.out))) : w.heap.size ≤ gb153)); have n3_ := Aside0.mk ((by rw [hg]; exact (xaR (by repeat (first | (with_reducible first | exact HB.out | apply xaB | apply xaA | apply xaC) | exact HB.out))) : w.heap.size ≤ gb153)); clear HB; have HB := n0_; have BK153 := n1_; have GW153 := n2_; have GE153 := n3_; clear n0_ n1_ n2_ n3_; clear hb hbox hg; have hcz18_0 : w17.cell? ⟨gb153, 0, none⟩ = some (.int .i64 a1_0) := (xaE BK153.out 0).trans rfl; have hcz18_1 : w17.cell? ⟨gb153, 1, none⟩ = some (.slice A1_1 l1_1.length c1_1) := (xaE BK153.out 1).trans rfl; have hfz18_0 := xaD BK153.out 0; have hfz18_1 := xaD BK153.out 1))
       go_ret
       exact ⟨by first | rfl | (simp [xaL, xaK] <;> rfl) | (simp [*, xaL, xaK] <;> rfl), by repeat (first | (with_reducible first | exact HB.out | apply xaB | apply xaA | apply xaC | refine xaF ?_ GE153.out) | exact HB.out)⟩
      ·
       rw [if_neg c16] at H
       have c16b0 : decide (109572 < a2) = false := decide_eq_false c16
       clear c16
       by_cases c19 : a3 > 109572
       ·
        rw [if_pos c19] at H
        have c19b0 : decide (109572 < a3) = true := decide_eq_true c19
        clear c19
        obtain rfl := Option.some.inj H
        go_enter Try.func25, Try.ntmps25
        go_wp2_with (first | ((with_reducible refine xbM (N := 5) rfl ?_); (try (refine xeL (by rfl) ?_; dsimp only)); refine xbJ ?hg (N := 5) ?hd (cs := #[.int .i64 a1_0, .slice A1_1 l1_1.length c1_1]) (t := 24) ?hr ?_; (case hd => rfl); (case hg => rfl); (case hr => first | (go_simp; done) | (go_simp; rfl)); intro gb153 hg w20 hbox hb; have n0_ := Aside0.mk (xaP (by repeat (first | (with_reducible first | exact HB.out | apply xaB | apply xaA | apply xaC) | exact HB.out)) hb); have n1_ := Aside0.mk (hbox); have n2_ := Aside0.mk ((by rw [hg]; exact (xaR (by repeat (first | (with_reducible first | exact HB.out | apply xaB | apply xaA | apply xaC) | exact HB.out))) : w.heap.size ≤ gb153)); have n3_ := Aside0.mk ((by rw [hg]; exact (xaR (by repeat (first | (with_reducible first | exact HB.out | apply xaB | apply xaA | apply xaC) | exact HB.out))) : w.heap.size ≤ gb153)); clear HB; have HB := n0_; have BK153 := n1_; have GW153 := n2_; have GE153 := n3_; clear n0_ n1_ n2_ n3_; clear hb hbox hg; have hcz21_0 : w20.cell? ⟨gb153, 0, none⟩ = some (.int .i64 a1_0) := (xaE BK153.out 0).trans rfl; have hcz21_1 : w20.cell? ⟨gb153, 1, none⟩ = some (.slice A1_1 l1_1.length c1_1) := (xaE BK153.out 1).trans rfl; have hfz21_0 := xaD BK153.out 0; have hfz21_1 := xaD BK153.out 1))
        go_ret
        exact ⟨by first | rfl | (simp [xaL, xaK] <;> rfl) | (simp [*, xaL, xaK] <;> rfl), by repeat (first | (with_reducible first | exact HB.out | apply xaB | apply xaA | apply xaC | refine xaF ?_ GE153.out) | exact HB.out)⟩
       ·
        rw [if_neg c19] at H
        have c19b0 : decide (109572 < a3) = false := decide_eq_false c19
        clear c19
        by_cases c22 : (wrap64 (a2 - a3)) ≤ 800
        ·
         rw [if_pos c22] at H
         have c22b0 : decide ((wrap64 (a2 - a3)) ≤ 800) = true := decide_eq_true c22
         clear c22
         obtain rfl := Option.some.inj H
         go_enter Try.func25, Try.ntmps25
         go_wp2_with (first | ((with_reducible refine xbM (N := 5) rfl ?_); (try (refine xeL (by rfl) ?_; dsimp only)); refine xbJ ?hg (N := 5) ?hd (cs := #[.int .i64 a1_0, .slice A1_1 l1_1.length c1_1]) (t := 24) ?hr ?_; (case hd => rfl); (case hg => rfl); (case hr => first | (go_simp; done) | (go_simp; rfl)); intro gb153 hg w23 hbox hb; have n0_ := Aside0.mk (xaP (by repeat (first | (with_reducible first | exact HB.out | apply xaB | apply xaA | apply xaC) | exact HB.out)) hb); have n1_ := Aside0.mk (hbox); have n2_ := Aside0.mk ((by rw [hg]; exact (xaR (by repeat (first | (with_reducible first | exact HB.out | apply xaB | apply xaA | apply xaC) | exact HB.out))) : w.heap.size ≤ gb153)); have n3_ := Aside0.mk ((by rw [hg]; exact (xaR (by repeat (first | (with_reducible first | exact HB.out | apply xaB | apply xaA | apply xaC) | exact HB.out))) : w.heap.size ≤ gb153)); clear HB; have HB := n0_; have BK153 := n1_; have GW153 := n2_; have GE153 := n3_; clear n0_ n1_ n2_ n3_; clear hb hbox hg; have hcz24_0 : w23.cell? ⟨gb153, 0, none⟩ = some (.int .i64 a1_0) := (xaE BK153.out 0).trans rfl; have hcz24_1 : w23.cell? ⟨gb153, 1, none⟩ = some (.slice A1_1 l1_1.length c1_1) := (xaE BK153.out 1).trans rfl; have hfz24_0 := xaD BK153.out 0; have hfz24_1 := xaD BK153.out 1))
         go_ret
         exact ⟨by first | rfl | (simp [xaL, xaK] <;> rfl) | (simp [*, xaL, xaK] <;> rfl), by repeat (first | (with_reducible first | exact HB.out | apply xaB | apply xaA | apply xaC | refine xaF ?_ GE153.out) | exact HB.out)⟩
        ·
         rw [if_neg c22] at H
         have c22b0 : decide ((wrap64 (a2 - a3)) ≤ 800) = false := decide_eq_false c22
         clear c22
         obtain rfl := Option.some.inj H
         go_enter Try.func25, Try.ntmps25
         go_wp2_with (first | ((with_reducible refine xbM (N := 5) rfl ?_); (try (refine xeL (by rfl) ?_; dsimp only)); refine xbJ ?hg (N := 5) ?hd (cs := #[.int .i64 a1_0, .slice A1_1 l1_1.length c1_1]) (t := 24) ?hr ?_; (case hd => rfl); (case hg => rfl); (case hr => first | (go_simp; done) | (go_simp; rfl)); intro gb153 hg w25 hbox hb; have n0_ := Aside0.mk (xaP (by repeat (first | (with_reducible first | exact HB.out | apply xaB | apply xaA | apply xaC) | exact HB.out)) hb); have n1_ := Aside0.mk (hbox); have n2_ := Aside0.mk ((by rw [hg]; exact (xaR (by repeat (first | (with_reducible first | exact HB.out | apply xaB | apply xaA | apply xaC) | exact HB.out))) : w.heap.size ≤ gb153)); have n3_ := Aside0.mk ((by rw [hg]; exact (xaR (by repeat (first | (with_reducible first | exact HB.out | apply xaB | apply xaA | apply xaC) | exact HB.out))) : w.heap.size ≤ gb153)); clear HB; have HB := n0_; have BK153 := n1_; have GW153 := n2_; have GE153 := n3_; clear n0_ n1_ n2_ n3_; clear hb hbox hg; have hcz26_0 : w25.cell? ⟨gb153, 0, none⟩ = some (.int .i64 a1_0) := (xaE BK153.out 0).trans rfl; have hcz26_1 : w25.cell? ⟨gb153, 1, none⟩ = some (.slice A1_1 l1_1.length c1_1) := (xaE BK153.out 1).trans rfl; have hfz26_0 := xaD BK153.out 0; have hfz26_1 := xaD BK153.out 1))
         go_ret
         exact ⟨by first | rfl | (simp [xaL, xaK] <;> rfl) | (simp [*, xaL, xaK] <;> rfl), by repeat (first | (with_reducible first | exact HB.out | apply xaB | apply xaA | apply xaC | refine xaF ?_ GE153.out) | exact HB.out)⟩
  ·
   rw [if_neg c6] at H
   have c6b0 : decide ((l1_1.length : Int) ≤ 12) = false := decide_eq_false c6
   have c6b1 : decide (l1_1.length ≤ 12) = false := decide_eq_false (by omega)
   clear c6
   obtain rfl := Option.some.inj H
   go_enter Try.func25, Try.ntmps25
   go_wp2_with (first | ((with_reducible refine xbM (N := 5) rfl ?_); (try (refine xeL (by rfl) ?_; dsimp only)); refine xbJ ?hg (N := 5) ?hd (cs := #[.int .i64 a1_0, .slice A1_1 l1_1.length c1_1]) (t := 24) ?hr ?_; (case hd => rfl); (case hg => rfl); (case hr => first | (go_simp; done) | (go_simp; rfl)); intro gb153 hg w27 hbox hb; have n0_ := Aside0.mk (xaP (by repeat (first | (with_reducible first | exact HB.out | apply xaB | apply xaA | apply xaC) | exact HB.out)) hb); have n1_ := Aside0.mk (hbox); have n2_ := Aside0.mk ((by rw [hg]; exact (xaR (by repeat (first | (with_reducible first | exact HB.out | apply xaB | apply xaA | apply xaC) | exact HB.out))) : w.heap.size ≤ gb153)); have n3_ := Aside0.mk ((by rw [hg]; exact (xaR (by repeat (first | (with_reducible first | exact HB.out | apply xaB | apply xaA | apply xaC) | exact HB.out))) : w.heap.size ≤ gb153)); clear HB; have HB := n0_; have BK153 := n1_; have GW153 := n2_; have GE153 := n3_; clear n0_ n1_ n2_ n3_; clear hb hbox hg; have hcz28_0 : w27.cell? ⟨gb153, 0, none⟩ = some (.int .i64 a1_0) := (xaE BK153.out 0).trans rfl; have hcz28_1 : w27.cell? ⟨gb153, 1, none⟩ = some (.slice A1_1 l1_1.length c1_1) := (xaE BK153.out 1).trans rfl; have hfz28_0 := xaD BK153.out 0; have hfz28_1 := xaD BK153.out 1))
   go_ret
   exact ⟨by first | rfl | (simp [xaL, xaK] <;> rfl) | (simp [*, xaL, xaK] <;> rfl), by repeat (first | (with_reducible first | exact HB.out | apply xaB | apply xaA | apply xaC | refine xaF ?_ GE153.out) | exact HB.out)⟩
 ·
  rw [if_neg c5] at H
  have c5b0 : (a0 == 6) = false := beq_eq_false_iff_ne.mpr c5
  have c5b1 : (a0 != 6) = true := bne_iff_ne.mpr c5
  obtain rfl := Option.some.inj H
  go_enter Try.func25, Try.ntmps25
  go_wp2_with (first | ((with_reducible refine xbM (N := 5) rfl ?_); (try (refine xeL (by rfl) ?_; dsimp only)); refine xbJ ?hg (N := 5) ?hd (cs := #[.int .i64 a1_0, .slice A1_1 l1_1.length c1_1]) (t := 24) ?hr ?_; (case hd => rfl); (case hg => rfl); (case hr => first | (go_simp; done) | (go_simp; rfl)); intro gb153 hg w29 hbox hb; have n0_ := Aside0.mk (xaP (by repeat (first | (with_reducible first | exact HB.out | apply xaB | apply xaA | apply xaC) | exact HB.out)) hb); have n1_ := Aside0.mk (hbox); have n2_ := Aside0.mk ((by rw [hg]; exact (xaR (by repeat (first | (with_reducible first | exact HB.out | apply xaB | apply xaA | apply xaC) | exact HB.out))) : w.heap.size ≤ gb153)); have n3_ := Aside0.mk ((by rw [hg]; exact (xaR (by repeat (first | (with_reducible first | exact HB.out | apply xaB | apply xaA | apply xaC) | exact HB.out))) : w.heap.size ≤ gb153)); clear HB; have HB := n0_; have BK153 := n1_; have GW153 := n2_; have GE153 := n3_; clear n0_ n1_ n2_ n3_; clear hb hbox hg))
  go_ret
  exact ⟨by first | rfl | (simp [xaL, xaK] <;> rfl) | (simp [*, xaL, xaK] <;> rfl), by repeat (first | (with_reducible first | exact HB.out | apply xaB | apply xaA | apply xaC | refine xaF ?_ GE153.out) | exact HB.out)⟩
-- NOT PRINTED: function 84 (cal_kind)
end Go.Proofs.Ytoncignjcgjhhaa.Q
namespace Go.Proofs.Ytoncignjcgjhhaa.Q
open Go.RowKit Go.Proofs.YtoncignjcgjhhaaW.PrintWords Go.Proofs.YtoncignjcgjhhaaW.PrintLast Go.Proofs.YtoncignjcgjhhaaW.PrintMore
attribute [local go_sem] xcC xcB xcR xcQ xbX xbW xcF xcE   -- for this text's walks alone
def xeS.f (a0 : Int) (a1 : Int) : Option (Bool) := if a0 = a1 then (some true) else ((xdD.f a0).bind fun t469 => (if t469 = true then ((xdD.f a1).bind fun t470 => (some t470)) else (some false)))
set_option maxHeartbeats 8000000 in
set_option maxRecDepth 100000 in
theorem xeS.calls (a0 : Int) (a1 : Int) (r : Bool) (w : World) (h : xeS.f a0 a1 = some r) :
  Calls Try.prog 68 #[.int .u64 a0, .int .u64 a1] w fun e w' => e = .returned (.bool r) ∧ Drawn0 w w' := by
 have H : (if a0 = a1 then (some true) else ((xdD.f a0).bind fun t469 => (if t469 = true then ((xdD.f a1).bind fun t470 => (some t470)) else (some false)))) = some r := h
 clear h
 by_cases c3 : a0 = a1
 ·
  rw [if_pos c3] at H
  have c3b0 : (a0 == a1) = true := beq_iff_eq.mpr c3
  have c3b1 : (a0 != a1) = false := bne_eq_false_iff_eq.mpr c3
  clear c3
  obtain rfl := Option.some.inj H
  go_enter Try.func68, Try.ntmps68
  go_wp2
  go_ret
  exact ⟨by first | rfl | (simp; done) | (simp [*]; done), by repeat (first | exact Drawn0.refl _ | apply Drawn0.step)⟩
 ·
  rw [if_neg c3] at H
  have c3b0 : (a0 == a1) = false := beq_eq_false_iff_ne.mpr c3
  have c3b1 : (a0 != a1) = true := bne_iff_ne.mpr c3
  replace H := Option.bind_eq_some_iff.mp H
  obtain ⟨t469, A40, H⟩ := H
  replace H : (if t469 = true then ((xdD.f a1).bind fun t470 => (some t470)) else (some false)) = some r := H
  have A4 := Aside0.mk A40;clear A40
  by_cases c5 : t469 = true
  ·
   subst c5
   have H1 : ((xdD.f a1).bind fun t470 => (some t470)) = some r := by rw [if_pos rfl] at H; exact H
   clear H;have H := H1;clear H1;replace H := Option.bind_eq_some_iff.mp H
   obtain ⟨t470, A60, H⟩ := H
   replace H : (some t470) = some r := H
   have A6 := Aside0.mk A60;clear A60
   obtain rfl := Option.some.inj H
   go_enter Try.func68, Try.ntmps68
   go_wp2_with (first | (go_at_call 105; (with_reducible refine (xdD.calls a0 true _ A4.out).mono ?_); rintro e w' ⟨rfl, ⟨nd, rfl⟩⟩) | (go_at_call 105; (with_reducible refine (xdD.calls a1 t470 _ A6.out).mono ?_); rintro e w' ⟨rfl, ⟨nd, rfl⟩⟩))
   go_ret
   exact ⟨by first | rfl | (simp; done) | (simp [*]; done), by repeat (first | exact Drawn0.refl _ | apply Drawn0.step)⟩
  ·
   replace c5 := Bool.eq_false_iff.mpr c5;subst c5
   have H1 : (some false) = some r := by rw [if_neg (show ¬ (false = true) by decide)] at H; exact H
   clear H;have H := H1;clear H1
   obtain rfl := Option.some.inj H
   go_enter Try.func68, Try.ntmps68
   go_wp2_with (first | (go_at_call 105; (with_reducible refine (xdD.calls a0 false _ A4.out).mono ?_); rintro e w' ⟨rfl, ⟨nd, rfl⟩⟩))
   go_ret
   exact ⟨by first | rfl | (simp; done) | (simp [*]; done), by repeat (first | exact Drawn0.refl _ | apply Drawn0.step)⟩
-- NOT PRINTED: function 106 (math_Float64bits)
-- NOT PRINTED: function 69 (api_Bits)
-- NOT PRINTED: function 31 (tenorlaw1_Is)
-- NOT PRINTED: function 7 (tenorlaw7_CountYears)
end Go.Proofs.Ytoncignjcgjhhaa.Q
namespace Go.Proofs.Ytoncignjcgjhhaa.H
open Go.RowKit Go.Proofs.YtoncignjcgjhhaaW.PrintWords Go.Proofs.YtoncignjcgjhhaaW.PrintLast Go.Proofs.YtoncignjcgjhhaaW.PrintMore
open Go.Proofs.Ytoncignjcgjhhaa.Q
theorem run106 (b : Nat) (w : World) : (callFunc 106 #[.float .f64 b]).run Try.prog w = .ok (.value (.int .u64 b)) w := by
  rw [run_callFunc_extern Try.func106 (by kernel_rfl) (by kernel_rfl) (by kernel_rfl) (e := Extern.MathFloatBits.float64bits) (by kernel_rfl)]; rfl
theorem bits_calls (b : Nat) (w : World) : Calls Try.prog 69 #[.float .f64 b] w fun e w' => e = .returned (.int .u64 b) ∧ Drawn0 w w' := by
 have hd := run106
 go_enter Try.func69, Try.ntmps69
 go_wp2
 go_ret
 exact ⟨rfl, by repeat (first | exact Drawn0.refl _ | apply Drawn0.step)⟩
theorem isq_calls (b : Nat) (w : World) : Calls Try.prog 31 #[.float .f64 b, .int .u64 b] w fun e w' => e = .returned (.bool true) ∧ Drawn0 w w' := by
 have hs : xeS.f (b : Int) (b : Int) = some true := by unfold xeS.f; rw [if_pos rfl]
 have HS := Aside0.mk hs;clear hs
 go_enter Try.func31, Try.ntmps31
 go_wp2_with (first | (go_at_call 69; (with_reducible refine (bits_calls b _).mono ?_); rintro e w' ⟨rfl, ⟨n_, rfl⟩⟩) | (go_at_call 68; (with_reducible refine (xeS.calls (b : Int) (b : Int) true _ HS.out).mono ?_); rintro e w' ⟨rfl, ⟨n_, rfl⟩⟩))
 go_ret
 exact ⟨rfl, by repeat (first | exact Drawn0.refl _ | apply Drawn0.step)⟩
end Go.Proofs.Ytoncignjcgjhhaa.H
namespace Go.Proofs.Ytoncignjcgjhhaa.Q
open Go.RowKit Go.Proofs.YtoncignjcgjhhaaW.PrintWords Go.Proofs.YtoncignjcgjhhaaW.PrintLast Go.Proofs.YtoncignjcgjhhaaW.PrintMore
theorem short_someY (kind we : Int) (l : List S63) (a b : Int) : ∃ t, xdZ.f kind we l a b = some t := by
 unfold xdZ.f
 repeat' split
 all_goals exact ⟨_, rfl⟩
set_option maxHeartbeats 8000000 in
set_option maxRecDepth 100000 in
theorem tenorlaw7_CountYears.calls (kind we : Int) (A : Option Addr) (c : Nat) (l : List S63) (x y : Int) (w : World) (hr : Kd.C k63 w A l.length l) (hc : l.length ≤ c) (hw : wfL l) :
  Calls Try.prog 7 #[.int .i64 kind, .agg #[.int .i64 we, .slice A l.length c], .int .i64 x, .int .i64 y] w fun e w' => e = .returned (.bool true) ∧ Below w.heap.size w w' := by
 have hu24 := Try.underlying24;have HR := Aside0.mk hr;have HC := Aside0.mk hc;clear hr hc
 have HB := Aside0.mk (Below.refl w.heap.size w)
 have AW : Aside0 (xeA.f = some true) := Aside0.mk rfl
 obtain ⟨t1, h1⟩ := short_someY kind we l x y
 have S1 := Aside0.mk h1;clear h1
 by_cases c0 : l.length > 100
 ·
  have c0a : decide (100 < l.length) = true := decide_eq_true c0
  have c0b : decide ((100 : Int) < (l.length : Int)) = true := decide_eq_true (by omega)
  clear c0 S1 hw
  go_enter Try.func7, Try.ntmps7
  go_wp2_with (first | ((with_reducible refine xbM (N := 5) rfl ?_); refine xbJ ?hg (N := 5) ?hd (cs := #[.int .i64 we, .slice A l.length c]) (t := 24) ?hr ?_; (case hd => rfl); (case hg => rfl); (case hr => first | (go_simp; done) | (go_simp; rfl)); intro gb hg wb hbox hb; have n0_ := Aside0.mk (xaP (by repeat (first | (with_reducible first | exact HB.out | apply xaB | apply xaA | apply xaC) | exact HB.out)) hb); have n1_ := Aside0.mk (hbox); clear HB; have HB := n0_; have BK := n1_; clear n0_ n1_; clear hb hbox hg; have hczwb_0 : wb.cell? ⟨gb, 0, none⟩ = some (.int .i64 we) := (xaE BK.out 0).trans rfl; have hczwb_1 : wb.cell? ⟨gb, 1, none⟩ = some (.slice A l.length c) := (xaE BK.out 1).trans rfl; have hfzwb_0 := xaD BK.out 0; have hfzwb_1 := xaD BK.out 1) | (go_at_call 26; (with_reducible refine (xeA.calls true _ AW.out).mono ?_); rintro e wz ⟨rfl, hb⟩; have n1_ := Aside0.mk (xaP (by repeat (first | (with_reducible first | exact HB.out | apply xaB | apply xaA | apply xaC) | exact HB.out)) hb); clear HB; have HB := n1_; clear n1_; (try clear hb)))
  go_ret
  exact ⟨by first | rfl | (simp [*]; done), by repeat (first | (with_reducible first | exact HB.out | apply xaB | apply xaA | apply xaC) | exact HB.out)⟩
 ·
  have c0a : decide (100 < l.length) = false := decide_eq_false c0
  have c0b : decide ((100 : Int) < (l.length : Int)) = false := decide_eq_false (by omega)
  clear c0
  cases t1 with
  | false =>
   go_enter Try.func7, Try.ntmps7
   go_wp2_with (first | ((with_reducible refine xbM (N := 5) rfl ?_); refine xbJ ?hg (N := 5) ?hd (cs := #[.int .i64 we, .slice A l.length c]) (t := 24) ?hr ?_; (case hd => rfl); (case hg => rfl); (case hr => first | (go_simp; done) | (go_simp; rfl)); intro gb hg wb hbox hb; have n0_ := Aside0.mk (xaP (by repeat (first | (with_reducible first | exact HB.out | apply xaB | apply xaA | apply xaC) | exact HB.out)) hb); have n1_ := Aside0.mk (hbox); clear HB; have HB := n0_; have BK := n1_; clear n0_ n1_; clear hb hbox hg; have hczwb_0 : wb.cell? ⟨gb, 0, none⟩ = some (.int .i64 we) := (xaE BK.out 0).trans rfl; have hczwb_1 : wb.cell? ⟨gb, 1, none⟩ = some (.slice A l.length c) := (xaE BK.out 1).trans rfl; have hfzwb_0 := xaD BK.out 0; have hfzwb_1 := xaD BK.out 1) | (go_at_call 25; (with_reducible refine (xdZ.calls kind we _ _ l x y false _ ?side1 ?side2 S1.out).mono ?_); (case side1 => repeat (first | exact (Kd.xbT HR.out HB.out) | (with_reducible refine Kd.xbF ?_ _) | (with_reducible refine Kd.xbE ?_ _) | (with_reducible refine Kd.C_drew ?_))); (case side2 => exact HC.out); rintro e w1 ⟨rfl, hb⟩; have n0_ := Aside0.mk (xaY (g := gb) (o := .cells #[.int .i64 we, .slice A l.length c] 24 (0, 0)) (by (with_reducible repeat (first | refine xaG ?_ _ | refine xaJ ?_ | refine xaH ?_ _)); exact BK.out) hb); have n1_ := Aside0.mk (xaP (by repeat (first | (with_reducible first | exact HB.out | apply xaB | apply xaA | apply xaC) | exact HB.out)) hb); clear BK; clear HB; have BK := n0_; have HB := n1_; clear n0_ n1_; (try clear hb); have hczw1_0 : w1.cell? ⟨gb, 0, none⟩ = some (.int .i64 we) := (xaE BK.out 0).trans rfl; have hczw1_1 : w1.cell? ⟨gb, 1, none⟩ = some (.slice A l.length c) := (xaE BK.out 1).trans rfl; have hfzw1_0 := xaD BK.out 0; have hfzw1_1 := xaD BK.out 1) | (go_at_call 26; (with_reducible refine (xeA.calls true _ AW.out).mono ?_); rintro e wz ⟨rfl, hb⟩; have n1_ := Aside0.mk (xaP (by repeat (first | (with_reducible first | exact HB.out | apply xaB | apply xaA | apply xaC) | exact HB.out)) hb); clear HB; have HB := n1_; clear n1_; (try clear hb)))
   go_ret
   exact ⟨by first | rfl | (simp [*]; done), by repeat (first | (with_reducible first | exact HB.out | apply xaB | apply xaA | apply xaC) | exact HB.out)⟩
  | true =>
   obtain ⟨v, er, y1, y2⟩ := N.years kind we l x y hw
   obtain ⟨k1, f1⟩ := y1.rounds
   obtain ⟨k2, f2⟩ := y2.rounds
   have F1 := Aside0.mk f1;have F2 := Aside0.mk f2;clear y1 y2 f1 f2 hw
   go_enter Try.func7, Try.ntmps7
   go_wp2_with (first | ((with_reducible refine xbM (N := 5) rfl ?_); refine xbJ ?hg (N := 5) ?hd (cs := #[.int .i64 we, .slice A l.length c]) (t := 24) ?hr ?_; (case hd => rfl); (case hg => rfl); (case hr => first | (go_simp; done) | (go_simp; rfl)); intro gb hg wb hbox hb; have n0_ := Aside0.mk (xaP (by repeat (first | (with_reducible first | exact HB.out | apply xaB | apply xaA | apply xaC) | exact HB.out)) hb); have n1_ := Aside0.mk (hbox); clear HB; have HB := n0_; have BK := n1_; clear n0_ n1_; clear hb hbox hg; have hczwb_0 : wb.cell? ⟨gb, 0, none⟩ = some (.int .i64 we) := (xaE BK.out 0).trans rfl; have hczwb_1 : wb.cell? ⟨gb, 1, none⟩ = some (.slice A l.length c) := (xaE BK.out 1).trans rfl; have hfzwb_0 := xaD BK.out 0; have hfzwb_1 := xaD BK.out 1) | (go_at_call 25; (with_reducible refine (xdZ.calls kind we _ _ l x y true _ ?side1 ?side2 S1.out).mono ?_); (case side1 => repeat (first | exact (Kd.xbT HR.out HB.out) | (with_reducible refine Kd.xbF ?_ _) | (with_reducible refine Kd.xbE ?_ _) | (with_reducible refine Kd.C_drew ?_))); (case side2 => exact HC.out); rintro e w1 ⟨rfl, hb⟩; have n0_ := Aside0.mk (xaY (g := gb) (o := .cells #[.int .i64 we, .slice A l.length c] 24 (0, 0)) (by (with_reducible repeat (first | refine xaG ?_ _ | refine xaJ ?_ | refine xaH ?_ _)); exact BK.out) hb); have n1_ := Aside0.mk (xaP (by repeat (first | (with_reducible first | exact HB.out | apply xaB | apply xaA | apply xaC) | exact HB.out)) hb); clear BK; clear HB; have BK := n0_; have HB := n1_; clear n0_ n1_; (try clear hb); have hczw1_0 : w1.cell? ⟨gb, 0, none⟩ = some (.int .i64 we) := (xaE BK.out 0).trans rfl; have hczw1_1 : w1.cell? ⟨gb, 1, none⟩ = some (.slice A l.length c) := (xaE BK.out 1).trans rfl; have hfzw1_0 := xaD BK.out 0; have hfzw1_1 := xaD BK.out 1) | (go_at_call 29; (with_reducible refine (xeC.calls k1 kind we _ _ l x y v er _ ?side1 ?side2 F1.out).mono ?_); (case side1 => repeat (first | exact (Kd.xbT HR.out HB.out) | (with_reducible refine Kd.xbF ?_ _) | (with_reducible refine Kd.xbE ?_ _) | (with_reducible refine Kd.C_drew ?_))); (case side2 => exact HC.out); rintro e w5 ⟨rfl, hb⟩; have n0_ := Aside0.mk (xaY (g := gb) (o := .cells #[.int .i64 we, .slice A l.length c] 24 (0, 0)) (by (with_reducible repeat (first | refine xaG ?_ _ | refine xaJ ?_ | refine xaH ?_ _)); exact BK.out) hb); have n1_ := Aside0.mk (xaP (by repeat (first | (with_reducible first | exact HB.out | apply xaB | apply xaA | apply xaC) | exact HB.out)) hb); clear BK; clear HB; have BK := n0_; have HB := n1_; clear n0_ n1_; (try clear hb); have hczw5_0 : w5.cell? ⟨gb, 0, none⟩ = some (.int .i64 we) := (xaE BK.out 0).trans rfl; have hczw5_1 : w5.cell? ⟨gb, 1, none⟩ = some (.slice A l.length c) := (xaE BK.out 1).trans rfl; have hfzw5_0 := xaD BK.out 0; have hfzw5_1 := xaD BK.out 1) | (go_at_call 30; (with_reducible refine (xcW.calls k2 kind we _ _ l x y (v : Int) er _ ?side1 ?side2 F2.out).mono ?_); (case side1 => repeat (first | exact (Kd.xbT HR.out HB.out) | (with_reducible refine Kd.xbF ?_ _) | (with_reducible refine Kd.xbE ?_ _) | (with_reducible refine Kd.C_drew ?_))); (case side2 => exact HC.out); rintro e w6 ⟨rfl, hb⟩; have n0_ := Aside0.mk (xaY (g := gb) (o := .cells #[.int .i64 we, .slice A l.length c] 24 (0, 0)) (by (with_reducible repeat (first | refine xaG ?_ _ | refine xaJ ?_ | refine xaH ?_ _)); exact BK.out) hb); have n1_ := Aside0.mk (xaP (by repeat (first | (with_reducible first | exact HB.out | apply xaB | apply xaA | apply xaC) | exact HB.out)) hb); clear BK; clear HB; have BK := n0_; have HB := n1_; clear n0_ n1_; (try clear hb); have hczw6_0 : w6.cell? ⟨gb, 0, none⟩ = some (.int .i64 we) := (xaE BK.out 0).trans rfl; have hczw6_1 : w6.cell? ⟨gb, 1, none⟩ = some (.slice A l.length c) := (xaE BK.out 1).trans rfl; have hfzw6_0 := xaD BK.out 0; have hfzw6_1 := xaD BK.out 1) | (go_at_call 31; (with_reducible refine (Go.Proofs.Ytoncignjcgjhhaa.H.isq_calls v _).mono ?_); rintro e wi ⟨rfl, ⟨n_, rfl⟩⟩) | (go_at_call 26; (with_reducible refine (xeA.calls true _ AW.out).mono ?_); rintro e wz ⟨rfl, hb⟩; have n1_ := Aside0.mk (xaP (by repeat (first | (with_reducible first | exact HB.out | apply xaB | apply xaA | apply xaC) | exact HB.out)) hb); clear HB; have HB := n1_; clear n1_; (try clear hb)))
   go_ret
   exact ⟨by first | rfl | (simp [*]; done), by repeat (first | (with_reducible first | exact HB.out | apply xaB | apply xaA | apply xaC) | exact HB.out)⟩
end Go.Proofs.Ytoncignjcgjhhaa.Q
