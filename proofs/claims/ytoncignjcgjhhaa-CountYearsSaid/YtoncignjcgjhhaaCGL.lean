/- Contracts and facts of functions of the program (calendar, dates and their documents), joined in one text by a program of this session. No condition but what each theorem states. -/
import Derived.Test.YtoncignjcgjhhaaCGA
import Derived.Test.YtoncignjcgjhhaaCGD
import Derived.Test.YtoncignjcgjhhaaCGI
import Derived.Test.YtoncignjcgjhhaaCGK
import Derived.Test.YtoncignjcgjhhaaCGC
import Derived.Test.YtoncignjcgjhhaaCGJ
set_option linter.unusedVariables false
set_option linter.unusedSimpArgs false
namespace Go.Proofs.Ytoncignjcgjhhaa.Q
open Go.RowKit Go.Proofs.YtoncignjcgjhhaaW.PrintWords Go.Proofs.YtoncignjcgjhhaaW.PrintLast Go.Proofs.YtoncignjcgjhhaaW.PrintMore
attribute [local go_sem] xcC xcB xcR xcQ xbX xbW xcF xcE   -- for this text's walks alone
mutual
def xaU.j0 : Nat → Int → Int → Int → Bool → Int → List (S63) → Option (Int × Int × Int)
  | 0, _, _, _, _, _, _ => none
  | k + 1, x0, x2, x3, x21, x261000, x261001 => if x21 = true then (some (0, 0, 70)) else (if x0 = 6 then ((xbP.f k x261000 x261001).bind fun bt262 => (if bt262.1 = 0 then (xaU.j1 k x0 x2 x3 x261000 x261001) else (some (0, 0, bt262.1)))) else (xaU.j1 k x0 x2 x3 x261000 x261001))
def xaU.j1 : Nat → Int → Int → Int → Int → List (S63) → Option (Int × Int × Int)
  | 0, _, _, _, _, _ => none
  | k + 1, x0, x2, x3, x261000, x261001 => if x2 < 0 then (xaU.j2 k x0 x2 x3 true x261000 x261001) else (if x2 > 109572 then (xaU.j2 k x0 x2 x3 true x261000 x261001) else (if x3 < 0 then (xaU.j2 k x0 x2 x3 true x261000 x261001) else (xaU.j2 k x0 x2 x3 (decide (x3 > 109572)) x261000 x261001)))
def xaU.j2 : Nat → Int → Int → Int → Bool → Int → List (S63) → Option (Int × Int × Int)
  | 0, _, _, _, _, _, _ => none
  | k + 1, x0, x2, x3, x47, x261000, x261001 => if x47 = true then (some (0, 0, 51)) else (if x3 < x2 then ((xaU.f k x0 x261000 x261001 x3 x2).bind fun bt264 => (some (wrap64 (-bt264.1), bt264.2.1, bt264.2.2))) else (if x0 = 1 then (some (wrap64 (x3 - x2), 360, 0)) else (if x0 = 2 then (some (wrap64 (x3 - x2), 365, 0)) else (if x0 = 3 then ((xaW.f k x2 x3).bind fun t268 => (some (t268, 133590, 0))) else (if x0 = 6 then ((xbB.f k x261000 x261001 x2 x3).bind fun bt269 => (some (bt269.1, 252, bt269.2))) else ((xdP.f k x0 x2 x3).bind fun t271 => (some (t271, 360, 0))))))))
def xaU.f : Nat → Int → Int → List (S63) → Int → Int → Option (Int × Int × Int)
  | 0, _, _, _, _, _ => none
  | k + 1, a0, a1_0, l1_1, a2, a3 => if a0 < 1 then (xaU.j0 k a0 a2 a3 true a1_0 l1_1) else (xaU.j0 k a0 a2 a3 (decide (a0 > 6)) a1_0 l1_1)
end
set_option maxHeartbeats 8000000 in
set_option maxRecDepth 100000 in
theorem xaU.calls (k : Nat) : ∀ (a0 : Int) (a1_0 : Int) (A1_1 : Option Addr) (c1_1 : Nat) (l1_1 : List (S63)) (a2 : Int) (a3 : Int) (r1 : Int) (r2 : Int) (r3 : Int) (w : World) (hr1_1 : Kd.C k63 w A1_1 l1_1.length l1_1) (hc1_1 : l1_1.length ≤ c1_1) (h : xaU.f k a0 a1_0 l1_1 a2 a3 = some (r1, r2, r3)),
  Calls Try.prog 28 #[.int .i64 a0, .agg #[.int .i64 a1_0, .slice A1_1 l1_1.length c1_1], .int .i64 a2, .int .i64 a3] w fun e w' => e = .returned (.tuple #[.agg #[.int .i64 r1, .int .i64 r2], .int .i64 r3]) ∧ Below w.heap.size w w' := by
 induction k using Nat.strongRecOn with
 | _ k ih =>
 intro a0 a1_0 A1_1 c1_1 l1_1 a2 a3 r1 r2 r3 w hr1_1 hc1_1 h
 cases k with
 | zero => exact absurd h (by simp [xaU.f])
 | succ k =>
 simp only [xaU.f] at h
 have hu24 := Try.underlying24;have hu31 := Try.underlying31;have HR1_1 := Aside0.mk hr1_1;have HC1_1 := Aside0.mk hc1_1;clear hr1_1 hc1_1
 have HB := Aside0.mk (Below.refl w.heap.size w)
 have H : (if a0 < 1 then (xaU.j0 k a0 a2 a3 true a1_0 l1_1) else (xaU.j0 k a0 a2 a3 (decide (a0 > 6)) a1_0 l1_1)) = some (r1, r2, r3) := h
 clear h;have HC5 := Aside0.mk H;clear H
 go_enter Try.func28, Try.ntmps28
 go_upto_region 1 with (first | ((with_reducible refine xbM (N := 5) rfl ?_); refine xbJ ?hg (N := 5) ?hd (cs := #[.int .i64 a1_0, .slice A1_1 l1_1.length c1_1]) (t := 24) ?hr ?_; (case hd => rfl); (case hg => rfl); (case hr => first | (go_simp; done) | (go_simp; rfl)); intro gb260 hg w6 hbox hb; have n0_ := Aside0.mk (xaP (by repeat (first | (with_reducible first | exact HB.out | apply xaB | apply xaA | apply xaC) | exact HB.out)) hb); have n1_ := Aside0.mk (hbox); have n2_ := Aside0.mk ((by rw [hg]; exact (xaR (by repeat (first | (with_reducible first | exact HB.out | apply xaB | apply xaA | apply xaC) | exact HB.out))) : w.heap.size ≤ gb260)); have n3_ := Aside0.mk ((by rw [hg]; exact (xaR (by repeat (first | (with_reducible first | exact HB.out | apply xaB | apply xaA | apply xaC) | exact HB.out))) : w.heap.size ≤ gb260)); clear HB; have HB := n0_; have BK260 := n1_; have GW260 := n2_; have GE260 := n3_; clear n0_ n1_ n2_ n3_; clear hb hbox hg) | ((with_reducible refine xbM (N := 8) rfl ?_); refine xbJ ?hg (N := 8) ?hd (cs := #[.int .i64 0, .int .i64 0]) (t := 31) ?hr ?_; (case hd => rfl); (case hg => rfl); (case hr => first | (go_simp; done) | (go_simp; rfl)); intro gb261 hg w7 hbox hb; have n0_ := Aside0.mk (xaY (g := gb260) (o := .cells #[.int .i64 a1_0, .slice A1_1 l1_1.length c1_1] 24 (0, 0)) (by (with_reducible repeat (first | refine xaG ?_ _ | refine xaJ ?_ | refine xaH ?_ _)); exact BK260.out) hb); have n1_ := Aside0.mk (xaP (by repeat (first | (with_reducible first | exact HB.out | apply xaB | apply xaA | apply xaC | refine xaF ?_ GE260.out) | exact HB.out)) hb); have n2_ := Aside0.mk (hbox); have n3_ := Aside0.mk ((by rw [hg]; exact (xaR (by repeat (first | (with_reducible first | exact HB.out | apply xaB | apply xaA | apply xaC | refine xaF ?_ GE260.out) | exact HB.out))) : w.heap.size ≤ gb261)); have n4_ := Aside0.mk ((by rw [hg]; exact (xaR (by repeat (first | (with_reducible first | exact HB.out | apply xaB | apply xaA | apply xaC | refine xaF ?_ GE260.out) | exact HB.out))) : w.heap.size ≤ gb261)); have n5_ := Aside0.mk ((by rw [hg]; exact Nat.ne_of_lt (blk_lt (g := gb260) (o := .cells #[.int .i64 a1_0, .slice A1_1 l1_1.length c1_1] 24 (0, 0)) (by (with_reducible repeat (first | refine xaG ?_ _ | refine xaJ ?_ | refine xaH ?_ _)); exact BK260.out)) : gb260 ≠ gb261)); have n6_ := Aside0.mk ((by rw [hg]; exact Nat.ne_of_gt (blk_lt (g := gb260) (o := .cells #[.int .i64 a1_0, .slice A1_1 l1_1.length c1_1] 24 (0, 0)) (by (with_reducible repeat (first | refine xaG ?_ _ | refine xaJ ?_ | refine xaH ?_ _)); exact BK260.out)) : gb261 ≠ gb260)); clear BK260; clear HB; have BK260 := n0_; have HB := n1_; have BK261 := n2_; have GW261 := n3_; have GE261 := n4_; have NB260_261 := n5_; have NB261_260 := n6_; clear n0_ n1_ n2_ n3_ n4_ n5_ n6_; clear hb hbox hg))
 (try simp only [Act.put, List.setIfInBounds_toArray, List.set_cons_zero, List.set_cons_succ])
 go_cut [21] (fun v21 wc => ∃ (kq : Nat) (x21_4 : Bool), v21 = .bool x21_4 ∧ Aside0 (xaU.j0 kq a0 a2 a3 x21_4 a1_0 l1_1 = some (r1, r2, r3)) ∧ Aside0 (kq ≤ k) ∧ Aside0 (wc.heap[gb260]? = some (.cells #[.int .i64 a1_0, (.slice A1_1 l1_1.length c1_1)] 24 (0, 0))) ∧ Aside0 (wc.heap[gb261]? = some (.cells #[.int .i64 0, .int .i64 0] 31 (0, 0))) ∧ Aside0 (Below w.heap.size w wc))
 case first =>
  have H := HC5.out;clear HC5
  by_cases c8 : a0 < 1
  ·
   rw [if_pos c8] at H
   have c8b0 : decide (a0 < 1) = true := decide_eq_true c8
   clear c8
   (first | rw [c8b0] | (simp only [i64_w, i32_w]; rw [c8b0]) | skip)
   have H' := Aside0.mk H;clear H
   go_wp2
   go_meet
   case rel => exact ⟨_, (true), (by first | rfl | (simp; done) | (simp [*]; done)), H', ⟨by first | omega | exact Nat.le_refl _⟩, ⟨by (with_reducible repeat (first | refine xaG ?_ _ | refine xaJ ?_ | refine xaH ?_ _)); exact BK260.out⟩, ⟨by (with_reducible repeat (first | refine xaG ?_ _ | refine xaJ ?_ | refine xaH ?_ _)); exact BK261.out⟩, ⟨by repeat (first | (with_reducible first | exact HB.out | apply xaB | apply xaA | apply xaC | refine xaF ?_ GE260.out | refine xaF ?_ GE261.out) | exact HB.out)⟩⟩
  ·
   rw [if_neg c8] at H
   have c8b0 : decide (a0 < 1) = false := decide_eq_false c8
   clear c8
   (first | rw [c8b0] | (simp only [i64_w, i32_w]; rw [c8b0]) | skip)
   have H' := Aside0.mk H;clear H
   go_wp2
   go_meet
   case rel => exact ⟨_, (decide (a0 > 6)), (by first | rfl | (simp; done) | (simp [*]; done)), H', ⟨by first | omega | exact Nat.le_refl _⟩, ⟨by (with_reducible repeat (first | refine xaG ?_ _ | refine xaJ ?_ | refine xaH ?_ _)); exact BK260.out⟩, ⟨by (with_reducible repeat (first | refine xaG ?_ _ | refine xaJ ?_ | refine xaH ?_ _)); exact BK261.out⟩, ⟨by repeat (first | (with_reducible first | exact HB.out | apply xaB | apply xaA | apply xaC | refine xaF ?_ GE260.out | refine xaF ?_ GE261.out) | exact HB.out)⟩⟩
 case rest =>
  clear HC5
  obtain ⟨kq, x21_4, rfl, HA, HJ4, BK260, BK261, HB⟩ := hcut
  cases kq with
  | zero => exact absurd HA.out (by simp [xaU.j0])
  | succ kj4 =>
   have H := HA.out;clear HA
   simp only [xaU.j0] at H
   by_cases c9 : x21_4 = true
   ·
    subst c9
    have H1 : (some (0, 0, 70)) = some (r1, r2, r3) := by rw [if_pos rfl] at H; exact H
    clear H;have H := H1;clear H1
    simp only [Option.some.injEq, Prod.mk.injEq] at H
    obtain ⟨rfl, rfl, rfl⟩ := H
    have hnb10 := NB261_260.out;have hnc10 := NB260_261.out
    have hcz11_0 : wc.cell? ⟨gb261, 0, none⟩ = some (.int .i64 0) := (xaE BK261.out 0).trans rfl
    have hcz11_1 : wc.cell? ⟨gb261, 1, none⟩ = some (.int .i64 0) := (xaE BK261.out 1).trans rfl
    have hfz11_0 := xaD BK261.out 0;have hfz11_1 := xaD BK261.out 1
    go_wp2
    refine bodyPost_ret (xeB rfl _ _ gb261 31 #[.int .i64 0, .int .i64 0] (0, 0) _ rfl (by (with_reducible repeat (first | refine xaG ?_ _ | refine xaJ ?_ | refine xaH ?_ _)); refine xcH (cs := #[.int .i64 0, .int .i64 0]) ?_ 1 _ rfl; (with_reducible repeat (first | refine xaG ?_ _ | refine xaJ ?_ | refine xaH ?_ _)); refine xcH (cs := #[.int .i64 0, .int .i64 0]) ?_ 0 _ rfl; (with_reducible repeat (first | refine xaG ?_ _ | refine xaJ ?_ | refine xaH ?_ _)); exact BK261.out) Try.underlying31 rfl (by kernel_rfl)) rfl ?_
    exact ⟨by first | rfl | (simp [xaL, xaK] <;> rfl) | (simp [*, xaL, xaK] <;> rfl), by repeat (first | (with_reducible first | exact HB.out | apply xaB | apply xaA | apply xaC | refine xaF ?_ GE260.out | refine xaF ?_ GE261.out) | exact HB.out)⟩
   ·
    replace c9 := Bool.eq_false_iff.mpr c9;subst c9
    have H1 : (if a0 = 6 then ((xbP.f kj4 a1_0 l1_1).bind fun bt262 => (if bt262.1 = 0 then (xaU.j1 kj4 a0 a2 a3 a1_0 l1_1) else (some (0, 0, bt262.1)))) else (xaU.j1 kj4 a0 a2 a3 a1_0 l1_1)) = some (r1, r2, r3) := by rw [if_neg (show ¬ (false = true) by decide)] at H; exact H
    clear H;have H := H1;clear H1;have HC12 := Aside0.mk H;clear H
    go_upto_if 24 with (fail)
    go_cut [] (fun wc => ∃ (kq : Nat) (x262000_11 : Int) (x262001_11 : Int), Aside0 (xaU.j1 kq a0 a2 a3 a1_0 l1_1 = some (r1, r2, r3)) ∧ Aside0 (kq ≤ kj4) ∧ Aside0 (wc.heap[gb260]? = some (.cells #[.int .i64 a1_0, (.slice A1_1 l1_1.length c1_1)] 24 (0, 0))) ∧ Aside0 (wc.heap[gb261]? = some (.cells #[.int .i64 x262000_11, .int .i64 x262001_11] 31 (0, 0))) ∧ Aside0 (Below w.heap.size w wc))
    case first =>
     have H := HC12.out;clear HC12
     by_cases c13 : a0 = 6
     ·
      rw [if_pos c13] at H
      have c13b0 : (a0 == 6) = true := beq_iff_eq.mpr c13
      have c13b1 : (a0 != 6) = false := bne_eq_false_iff_eq.mpr c13
      clear c13
      (first | rw [c13b0] | (simp only [i64_w, i32_w]; rw [c13b0]) | skip)
      replace H := Option.bind_eq_some_iff.mp H
      obtain ⟨⟨t262, t263⟩, A140, H⟩ := H
      replace H : (if t262 = 0 then (xaU.j1 kj4 a0 a2 a3 a1_0 l1_1) else (some (0, 0, t262))) = some (r1, r2, r3) := H
      have A14 := Aside0.mk A140;clear A140
      by_cases c15 : t262 = 0
      ·
       rw [if_pos c15] at H
       have c15b0 : (t262 == 0) = true := beq_iff_eq.mpr c15
       have c15b1 : (t262 != 0) = false := bne_eq_false_iff_eq.mpr c15
       clear c15;have H' := Aside0.mk H;clear H;have hnb16 := NB260_261.out;have hnc16 := NB261_260.out
       have hcz17_0 : wc.cell? ⟨gb260, 0, none⟩ = some (.int .i64 a1_0) := (xaE BK260.out 0).trans rfl
       have hcz17_1 : wc.cell? ⟨gb260, 1, none⟩ = some (.slice A1_1 l1_1.length c1_1) := (xaE BK260.out 1).trans rfl
       have hfz17_0 := xaD BK260.out 0;have hfz17_1 := xaD BK260.out 1
       go_wp2_with (first | ((with_reducible refine xaQ (f := 45) rfl ?_); refine goesL_ (some 27) rfl rfl Try.func45 (by kernel_rfl) rfl #[.agg #[.int .i64 a1_0, .slice A1_1 l1_1.length c1_1]] rfl (by (try simp only [List.map_toArray, List.map_cons, List.map_nil]); first | done | rfl | (simp only [List.length_drop, List.length_take]; rfl)) ?_; (with_reducible refine (xbP.calls kj4 a1_0 _ _ l1_1 t262 t263 _ ?side1 ?side2 A14.out).mono ?_); (case side1 => repeat (first | exact (Kd.xbT HR1_1.out HB.out) | (with_reducible refine Kd.xbF ?_ _) | (with_reducible refine Kd.xbE ?_ _) | (with_reducible refine Kd.C_drew ?_))); (case side2 => exact HC1_1.out); rintro e w18 ⟨rfl, hb⟩; refine ⟨_, rfl, ?_⟩; have n0_ := Aside0.mk (xaY (g := gb260) (o := .cells #[.int .i64 a1_0, .slice A1_1 l1_1.length c1_1] 24 (0, 0)) (by (with_reducible repeat (first | refine xaG ?_ _ | refine xaJ ?_ | refine xaH ?_ _)); exact BK260.out) hb); have n1_ := Aside0.mk (xaY (g := gb261) (o := .cells #[.int .i64 0, .int .i64 0] 31 (0, 0)) (by (with_reducible repeat (first | refine xaG ?_ _ | refine xaJ ?_ | refine xaH ?_ _)); exact BK261.out) hb); have n2_ := Aside0.mk (xaP (by repeat (first | (with_reducible first | exact HB.out | apply xaB | apply xaA | apply xaC | refine xaF ?_ GE260.out | refine xaF ?_ GE261.out) | exact HB.out)) hb); clear BK260; clear BK261; clear HB; have BK260 := n0_; have BK261 := n1_; have HB := n2_; clear n0_ n1_ n2_; (try clear hb); (try clear hb2); (try clear hk); (try clear hi)))
       go_meet
       case rel => exact ⟨_, (0), (0), H', ⟨by have := HJ4.out; first | omega | exact Nat.le_refl _⟩, ⟨by (with_reducible repeat (first | refine xaG ?_ _ | refine xaJ ?_ | refine xaH ?_ _)); exact BK260.out⟩, ⟨by (with_reducible repeat (first | refine xaG ?_ _ | refine xaJ ?_ | refine xaH ?_ _)); exact BK261.out⟩, ⟨by repeat (first | (with_reducible first | exact HB.out | apply xaB | apply xaA | apply xaC | refine xaF ?_ GE260.out | refine xaF ?_ GE261.out) | exact HB.out)⟩⟩
      ·
       rw [if_neg c15] at H
       have c15b0 : (t262 == 0) = false := beq_eq_false_iff_ne.mpr c15
       have c15b1 : (t262 != 0) = true := bne_iff_ne.mpr c15
       simp only [Option.some.injEq, Prod.mk.injEq] at H
       obtain ⟨rfl, rfl, rfl⟩ := H
       have hnb19 := NB260_261.out;have hnc19 := NB261_260.out
       have hcz20_0 : wc.cell? ⟨gb260, 0, none⟩ = some (.int .i64 a1_0) := (xaE BK260.out 0).trans rfl
       have hcz20_1 : wc.cell? ⟨gb260, 1, none⟩ = some (.slice A1_1 l1_1.length c1_1) := (xaE BK260.out 1).trans rfl
       have hfz20_0 := xaD BK260.out 0;have hfz20_1 := xaD BK260.out 1
       go_wp2_with (first | ((with_reducible refine xaQ (f := 45) rfl ?_); refine goesL_ (some 27) rfl rfl Try.func45 (by kernel_rfl) rfl #[.agg #[.int .i64 a1_0, .slice A1_1 l1_1.length c1_1]] rfl (by (try simp only [List.map_toArray, List.map_cons, List.map_nil]); first | done | rfl | (simp only [List.length_drop, List.length_take]; rfl)) ?_; (with_reducible refine (xbP.calls kj4 a1_0 _ _ l1_1 t262 t263 _ ?side1 ?side2 A14.out).mono ?_); (case side1 => repeat (first | exact (Kd.xbT HR1_1.out HB.out) | (with_reducible refine Kd.xbF ?_ _) | (with_reducible refine Kd.xbE ?_ _) | (with_reducible refine Kd.C_drew ?_))); (case side2 => exact HC1_1.out); rintro e w21 ⟨rfl, hb⟩; refine ⟨_, rfl, ?_⟩; have n0_ := Aside0.mk (xaY (g := gb260) (o := .cells #[.int .i64 a1_0, .slice A1_1 l1_1.length c1_1] 24 (0, 0)) (by (with_reducible repeat (first | refine xaG ?_ _ | refine xaJ ?_ | refine xaH ?_ _)); exact BK260.out) hb); have n1_ := Aside0.mk (xaY (g := gb261) (o := .cells #[.int .i64 0, .int .i64 0] 31 (0, 0)) (by (with_reducible repeat (first | refine xaG ?_ _ | refine xaJ ?_ | refine xaH ?_ _)); exact BK261.out) hb); have n2_ := Aside0.mk (xaP (by repeat (first | (with_reducible first | exact HB.out | apply xaB | apply xaA | apply xaC | refine xaF ?_ GE260.out | refine xaF ?_ GE261.out) | exact HB.out)) hb); clear BK260; clear BK261; clear HB; have BK260 := n0_; have BK261 := n1_; have HB := n2_; clear n0_ n1_ n2_; (try clear hb); (try clear hb2); (try clear hk); (try clear hi); have hcz22_0 : w21.cell? ⟨gb261, 0, none⟩ = some (.int .i64 0) := (xaE BK261.out 0).trans rfl; have hcz22_1 : w21.cell? ⟨gb261, 1, none⟩ = some (.int .i64 0) := (xaE BK261.out 1).trans rfl; have hfz22_0 := xaD BK261.out 0; have hfz22_1 := xaD BK261.out 1))
       refine bodyPost_ret (xeB rfl _ _ gb261 31 #[.int .i64 0, .int .i64 0] (0, 0) _ rfl (by (with_reducible repeat (first | refine xaG ?_ _ | refine xaJ ?_ | refine xaH ?_ _)); refine xcH (cs := #[.int .i64 0, .int .i64 0]) ?_ 1 _ rfl; (with_reducible repeat (first | refine xaG ?_ _ | refine xaJ ?_ | refine xaH ?_ _)); refine xcH (cs := #[.int .i64 0, .int .i64 0]) ?_ 0 _ rfl; (with_reducible repeat (first | refine xaG ?_ _ | refine xaJ ?_ | refine xaH ?_ _)); exact BK261.out) Try.underlying31 rfl (by kernel_rfl)) rfl ?_
       exact ⟨by first | rfl | (simp [xaL, xaK] <;> rfl) | (simp [*, xaL, xaK] <;> rfl), by repeat (first | (with_reducible first | exact HB.out | apply xaB | apply xaA | apply xaC | refine xaF ?_ GE260.out | refine xaF ?_ GE261.out) | exact HB.out)⟩
     ·
      rw [if_neg c13] at H
      have c13b0 : (a0 == 6) = false := beq_eq_false_iff_ne.mpr c13
      have c13b1 : (a0 != 6) = true := bne_iff_ne.mpr c13
      (first | rw [c13b0] | (simp only [i64_w, i32_w]; rw [c13b0]) | skip)
      have H' := Aside0.mk H;clear H
      go_wp2
      go_meet
      case rel => exact ⟨_, (0), (0), H', ⟨by have := HJ4.out; first | omega | exact Nat.le_refl _⟩, ⟨by (with_reducible repeat (first | refine xaG ?_ _ | refine xaJ ?_ | refine xaH ?_ _)); exact BK260.out⟩, ⟨by (with_reducible repeat (first | refine xaG ?_ _ | refine xaJ ?_ | refine xaH ?_ _)); exact BK261.out⟩, ⟨by repeat (first | (with_reducible first | exact HB.out | apply xaB | apply xaA | apply xaC | refine xaF ?_ GE260.out | refine xaF ?_ GE261.out) | exact HB.out)⟩⟩
    case rest =>
     clear HC12
     obtain ⟨kq, x262000_11, x262001_11, HA, HJ11, BK260, BK261, HB⟩ := hcut
     cases kq with
     | zero => exact absurd HA.out (by simp [xaU.j1])
     | succ kj11 =>
      have H := HA.out;clear HA
      simp only [xaU.j1] at H
      have HC23 := Aside0.mk H;clear H
      go_upto_region 7 with (fail)
      go_cut [47] (fun v47 wc => ∃ (kq : Nat) (x47_22 : Bool), v47 = .bool x47_22 ∧ Aside0 (xaU.j2 kq a0 a2 a3 x47_22 a1_0 l1_1 = some (r1, r2, r3)) ∧ Aside0 (kq ≤ kj11) ∧ Aside0 (wc.heap[gb260]? = some (.cells #[.int .i64 a1_0, (.slice A1_1 l1_1.length c1_1)] 24 (0, 0))) ∧ Aside0 (wc.heap[gb261]? = some (.cells #[.int .i64 x262000_11, .int .i64 x262001_11] 31 (0, 0))) ∧ Aside0 (Below w.heap.size w wc))
      case first =>
       have H := HC23.out;clear HC23
       by_cases c24 : a2 < 0
       ·
        rw [if_pos c24] at H
        have c24b0 : decide (a2 < 0) = true := decide_eq_true c24
        clear c24
        (first | rw [c24b0] | (simp only [i64_w, i32_w]; rw [c24b0]) | skip)
        have H' := Aside0.mk H;clear H
        go_wp2
        go_meet
        case rel => exact ⟨_, (true), (by first | rfl | (simp; done) | (simp [*]; done)), H', ⟨by have := HJ4.out; have := HJ11.out; first | omega | exact Nat.le_refl _⟩, ⟨by (with_reducible repeat (first | refine xaG ?_ _ | refine xaJ ?_ | refine xaH ?_ _)); exact BK260.out⟩, ⟨by (with_reducible repeat (first | refine xaG ?_ _ | refine xaJ ?_ | refine xaH ?_ _)); exact BK261.out⟩, ⟨by repeat (first | (with_reducible first | exact HB.out | apply xaB | apply xaA | apply xaC | refine xaF ?_ GE260.out | refine xaF ?_ GE261.out) | exact HB.out)⟩⟩
       ·
        rw [if_neg c24] at H
        have c24b0 : decide (a2 < 0) = false := decide_eq_false c24
        clear c24
        (first | rw [c24b0] | (simp only [i64_w, i32_w]; rw [c24b0]) | skip)
        by_cases c25 : a2 > 109572
        ·
         rw [if_pos c25] at H
         have c25b0 : decide (109572 < a2) = true := decide_eq_true c25
         clear c25;have H' := Aside0.mk H;clear H
         go_wp2
         go_meet
         case rel => exact ⟨_, (true), (by first | rfl | (simp; done) | (simp [*]; done)), H', ⟨by have := HJ4.out; have := HJ11.out; first | omega | exact Nat.le_refl _⟩, ⟨by (with_reducible repeat (first | refine xaG ?_ _ | refine xaJ ?_ | refine xaH ?_ _)); exact BK260.out⟩, ⟨by (with_reducible repeat (first | refine xaG ?_ _ | refine xaJ ?_ | refine xaH ?_ _)); exact BK261.out⟩, ⟨by repeat (first | (with_reducible first | exact HB.out | apply xaB | apply xaA | apply xaC | refine xaF ?_ GE260.out | refine xaF ?_ GE261.out) | exact HB.out)⟩⟩
        ·
         rw [if_neg c25] at H
         have c25b0 : decide (109572 < a2) = false := decide_eq_false c25
         clear c25
         by_cases c26 : a3 < 0
         ·
          rw [if_pos c26] at H
          have c26b0 : decide (a3 < 0) = true := decide_eq_true c26
          clear c26;have H' := Aside0.mk H;clear H
          go_wp2
          go_meet
          case rel => exact ⟨_, (true), (by first | rfl | (simp; done) | (simp [*]; done)), H', ⟨by have := HJ4.out; have := HJ11.out; first | omega | exact Nat.le_refl _⟩, ⟨by (with_reducible repeat (first | refine xaG ?_ _ | refine xaJ ?_ | refine xaH ?_ _)); exact BK260.out⟩, ⟨by (with_reducible repeat (first | refine xaG ?_ _ | refine xaJ ?_ | refine xaH ?_ _)); exact BK261.out⟩, ⟨by repeat (first | (with_reducible first | exact HB.out | apply xaB | apply xaA | apply xaC | refine xaF ?_ GE260.out | refine xaF ?_ GE261.out) | exact HB.out)⟩⟩
         ·
          rw [if_neg c26] at H
          have c26b0 : decide (a3 < 0) = false := decide_eq_false c26
          clear c26;have H' := Aside0.mk H;clear H
          go_wp2
          go_meet
          case rel => exact ⟨_, (decide (a3 > 109572)), (by first | rfl | (simp; done) | (simp [*]; done)), H', ⟨by have := HJ4.out; have := HJ11.out; first | omega | exact Nat.le_refl _⟩, ⟨by (with_reducible repeat (first | refine xaG ?_ _ | refine xaJ ?_ | refine xaH ?_ _)); exact BK260.out⟩, ⟨by (with_reducible repeat (first | refine xaG ?_ _ | refine xaJ ?_ | refine xaH ?_ _)); exact BK261.out⟩, ⟨by repeat (first | (with_reducible first | exact HB.out | apply xaB | apply xaA | apply xaC | refine xaF ?_ GE260.out | refine xaF ?_ GE261.out) | exact HB.out)⟩⟩
      case rest =>
       clear HC23
       obtain ⟨kq, x47_22, rfl, HA, HJ22, BK260, BK261, HB⟩ := hcut
       cases kq with
       | zero => exact absurd HA.out (by simp [xaU.j2])
       | succ kj22 =>
        have H := HA.out;clear HA
        simp only [xaU.j2] at H
        by_cases c27 : x47_22 = true
        ·
         subst c27
         have H1 : (some (0, 0, 51)) = some (r1, r2, r3) := by rw [if_pos rfl] at H; exact H
         clear H;have H := H1;clear H1
         simp only [Option.some.injEq, Prod.mk.injEq] at H
         obtain ⟨rfl, rfl, rfl⟩ := H
         have hnb28 := NB261_260.out;have hnc28 := NB260_261.out
         have hcz29_0 : wc.cell? ⟨gb261, 0, none⟩ = some (.int .i64 x262000_11) := (xaE BK261.out 0).trans rfl
         have hcz29_1 : wc.cell? ⟨gb261, 1, none⟩ = some (.int .i64 x262001_11) := (xaE BK261.out 1).trans rfl
         have hfz29_0 := xaD BK261.out 0;have hfz29_1 := xaD BK261.out 1
         go_wp2
         refine bodyPost_ret (xeB rfl _ _ gb261 31 #[.int .i64 0, .int .i64 0] (0, 0) _ rfl (by (with_reducible repeat (first | refine xaG ?_ _ | refine xaJ ?_ | refine xaH ?_ _)); refine xcH (cs := #[.int .i64 0, .int .i64 x262001_11]) ?_ 1 _ rfl; (with_reducible repeat (first | refine xaG ?_ _ | refine xaJ ?_ | refine xaH ?_ _)); refine xcH (cs := #[.int .i64 x262000_11, .int .i64 x262001_11]) ?_ 0 _ rfl; (with_reducible repeat (first | refine xaG ?_ _ | refine xaJ ?_ | refine xaH ?_ _)); exact BK261.out) Try.underlying31 rfl (by kernel_rfl)) rfl ?_
         exact ⟨by first | rfl | (simp [xaL, xaK] <;> rfl) | (simp [*, xaL, xaK] <;> rfl), by repeat (first | (with_reducible first | exact HB.out | apply xaB | apply xaA | apply xaC | refine xaF ?_ GE260.out | refine xaF ?_ GE261.out) | exact HB.out)⟩
        ·
         replace c27 := Bool.eq_false_iff.mpr c27;subst c27
         have H1 : (if a3 < a2 then ((xaU.f kj22 a0 a1_0 l1_1 a3 a2).bind fun bt264 => (some (wrap64 (-bt264.1), bt264.2.1, bt264.2.2))) else (if a0 = 1 then (some (wrap64 (a3 - a2), 360, 0)) else (if a0 = 2 then (some (wrap64 (a3 - a2), 365, 0)) else (if a0 = 3 then ((xaW.f kj22 a2 a3).bind fun t268 => (some (t268, 133590, 0))) else (if a0 = 6 then ((xbB.f kj22 a1_0 l1_1 a2 a3).bind fun bt269 => (some (bt269.1, 252, bt269.2))) else ((xdP.f kj22 a0 a2 a3).bind fun t271 => (some (t271, 360, 0)))))))) = some (r1, r2, r3) := by rw [if_neg (show ¬ (false = true) by decide)] at H; exact H
         clear H;have H := H1;clear H1
         by_cases c30 : a3 < a2
         ·
          rw [if_pos c30] at H
          have c30b0 : decide (a3 < a2) = true := decide_eq_true c30
          clear c30;replace H := Option.bind_eq_some_iff.mp H
          obtain ⟨⟨t264, t265, t266⟩, A310, H⟩ := H
          replace H : (some (wrap64 (-t264), t265, t266)) = some (r1, r2, r3) := H
          have A31 := Aside0.mk A310;clear A310
          simp only [Option.some.injEq, Prod.mk.injEq] at H
          obtain ⟨rfl, rfl, rfl⟩ := H
          have hnb32 := NB260_261.out;have hnc32 := NB261_260.out
          have hcz33_0 : wc.cell? ⟨gb260, 0, none⟩ = some (.int .i64 a1_0) := (xaE BK260.out 0).trans rfl
          have hcz33_1 : wc.cell? ⟨gb260, 1, none⟩ = some (.slice A1_1 l1_1.length c1_1) := (xaE BK260.out 1).trans rfl
          have hfz33_0 := xaD BK260.out 0;have hfz33_1 := xaD BK260.out 1
          go_wp2_with (first | ((with_reducible refine xaQ (f := 28) rfl ?_); refine goesL_ (some 57) rfl rfl Try.func28 (by kernel_rfl) rfl #[.int .i64 a0, .agg #[.int .i64 a1_0, .slice A1_1 l1_1.length c1_1], .int .i64 a3, .int .i64 a2] rfl (by (try simp only [List.map_toArray, List.map_cons, List.map_nil]); first | done | rfl | (simp only [List.length_drop, List.length_take]; rfl)) ?_; (with_reducible refine (ih kj22 (by have := HJ4.out; have := HJ11.out; have := HJ22.out; omega) a0 a1_0 _ _ l1_1 a3 a2 t264 t265 t266 _ ?side1 ?side2 A31.out).mono ?_); (case side1 => repeat (first | exact (Kd.xbT HR1_1.out HB.out) | (with_reducible refine Kd.xbF ?_ _) | (with_reducible refine Kd.xbE ?_ _) | (with_reducible refine Kd.C_drew ?_))); (case side2 => exact HC1_1.out); rintro e w34 ⟨rfl, hb⟩; refine ⟨_, rfl, ?_⟩; have n0_ := Aside0.mk (xaY (g := gb260) (o := .cells #[.int .i64 a1_0, .slice A1_1 l1_1.length c1_1] 24 (0, 0)) (by (with_reducible repeat (first | refine xaG ?_ _ | refine xaJ ?_ | refine xaH ?_ _)); exact BK260.out) hb); have n1_ := Aside0.mk (xaY (g := gb261) (o := .cells #[.int .i64 x262000_11, .int .i64 x262001_11] 31 (0, 0)) (by (with_reducible repeat (first | refine xaG ?_ _ | refine xaJ ?_ | refine xaH ?_ _)); exact BK261.out) hb); have n2_ := Aside0.mk (xaP (by repeat (first | (with_reducible first | exact HB.out | apply xaB | apply xaA | apply xaC | refine xaF ?_ GE260.out | refine xaF ?_ GE261.out) | exact HB.out)) hb); clear BK260; clear BK261; clear HB; have BK260 := n0_; have BK261 := n1_; have HB := n2_; clear n0_ n1_ n2_; (try clear hb); (try clear hb2); (try clear hk); (try clear hi)) | ((with_reducible refine xbM (N := 12) rfl ?_); refine xbJ ?hg (N := 12) ?hd (cs := #[.int .i64 0, .int .i64 0]) (t := 31) ?hr ?_; (case hd => rfl); (case hg => rfl); (case hr => first | (go_simp; done) | (go_simp; rfl)); intro gb267 hg w35 hbox hb; have n0_ := Aside0.mk (xaY (g := gb260) (o := .cells #[.int .i64 a1_0, .slice A1_1 l1_1.length c1_1] 24 (0, 0)) (by (with_reducible repeat (first | refine xaG ?_ _ | refine xaJ ?_ | refine xaH ?_ _)); exact BK260.out) hb); have n1_ := Aside0.mk (xaY (g := gb261) (o := .cells #[.int .i64 x262000_11, .int .i64 x262001_11] 31 (0, 0)) (by (with_reducible repeat (first | refine xaG ?_ _ | refine xaJ ?_ | refine xaH ?_ _)); exact BK261.out) hb); have n2_ := Aside0.mk (xaP (by repeat (first | (with_reducible first | exact HB.out | apply xaB | apply xaA | apply xaC | refine xaF ?_ GE260.out | refine xaF ?_ GE261.out) | exact HB.out)) hb); have n3_ := Aside0.mk (hbox); have n4_ := Aside0.mk ((by rw [hg]; exact (xaR (by repeat (first | (with_reducible first | exact HB.out | apply xaB | apply xaA | apply xaC | refine xaF ?_ GE260.out | refine xaF ?_ GE261.out) | exact HB.out))) : w.heap.size ≤ gb267)); have n5_ := Aside0.mk ((by rw [hg]; exact (xaR (by repeat (first | (with_reducible first | exact HB.out | apply xaB | apply xaA | apply xaC | refine xaF ?_ GE260.out | refine xaF ?_ GE261.out) | exact HB.out))) : w.heap.size ≤ gb267)); have n6_ := Aside0.mk ((by rw [hg]; exact Nat.ne_of_lt (blk_lt (g := gb260) (o := .cells #[.int .i64 a1_0, .slice A1_1 l1_1.length c1_1] 24 (0, 0)) (by (with_reducible repeat (first | refine xaG ?_ _ | refine xaJ ?_ | refine xaH ?_ _)); exact BK260.out)) : gb260 ≠ gb267)); have n7_ := Aside0.mk ((by rw [hg]; exact Nat.ne_of_gt (blk_lt (g := gb260) (o := .cells #[.int .i64 a1_0, .slice A1_1 l1_1.length c1_1] 24 (0, 0)) (by (with_reducible repeat (first | refine xaG ?_ _ | refine xaJ ?_ | refine xaH ?_ _)); exact BK260.out)) : gb267 ≠ gb260)); have n8_ := Aside0.mk ((by rw [hg]; exact Nat.ne_of_lt (blk_lt (g := gb261) (o := .cells #[.int .i64 x262000_11, .int .i64 x262001_11] 31 (0, 0)) (by (with_reducible repeat (first | refine xaG ?_ _ | refine xaJ ?_ | refine xaH ?_ _)); exact BK261.out)) : gb261 ≠ gb267)); have n9_ := Aside0.mk ((by rw [hg]; exact Nat.ne_of_gt (blk_lt (g := gb261) (o := .cells #[.int .i64 x262000_11, .int .i64 x262001_11] 31 (0, 0)) (by (with_reducible repeat (first | refine xaG ?_ _ | refine xaJ ?_ | refine xaH ?_ _)); exact BK261.out)) : gb267 ≠ gb261)); clear BK260; clear BK261; clear HB; have BK260 := n0_; have BK261 := n1_; have HB := n2_; have BK267 := n3_; have GW267 := n4_; have GE267 := n5_; have NB260_267 := n6_; have NB267_260 := n7_; have NB261_267 := n8_; have NB267_261 := n9_; clear n0_ n1_ n2_ n3_ n4_ n5_ n6_ n7_ n8_ n9_; clear hb hbox hg; have hnb36 := NB267_260.out; have hnc36 := NB260_267.out; have hnb37 := NB267_261.out; have hnc37 := NB261_267.out; have hcz38_0 : w35.cell? ⟨gb267, 0, none⟩ = some (.int .i64 0) := (xaE BK267.out 0).trans rfl; have hcz38_1 : w35.cell? ⟨gb267, 1, none⟩ = some (.int .i64 0) := (xaE BK267.out 1).trans rfl; have hfz38_0 := xaD BK267.out 0; have hfz38_1 := xaD BK267.out 1; have hcz39_0 : w35.cell? ⟨gb261, 0, none⟩ = some (.int .i64 x262000_11) := (xaE BK261.out 0).trans rfl; have hcz39_1 : w35.cell? ⟨gb261, 1, none⟩ = some (.int .i64 x262001_11) := (xaE BK261.out 1).trans rfl; have hfz39_0 := xaD BK261.out 0; have hfz39_1 := xaD BK261.out 1))
          refine bodyPost_ret (xeB rfl _ _ gb261 31 #[.int .i64 (wrap64 (-t264)), .int .i64 t265] (0, 0) _ rfl (by (with_reducible repeat (first | refine xaG ?_ _ | refine xaJ ?_ | refine xaH ?_ _)); refine xcH (cs := #[.int .i64 (wrap64 (-t264)), .int .i64 x262001_11]) ?_ 1 _ rfl; (with_reducible repeat (first | refine xaG ?_ _ | refine xaJ ?_ | refine xaH ?_ _)); refine xcH (cs := #[.int .i64 x262000_11, .int .i64 x262001_11]) ?_ 0 _ rfl; (with_reducible repeat (first | refine xaG ?_ _ | refine xaJ ?_ | refine xaH ?_ _)); refine xcX ?_ NB261_267.out _; (with_reducible repeat (first | refine xaG ?_ _ | refine xaJ ?_ | refine xaH ?_ _)); refine xcX ?_ NB261_267.out _; (with_reducible repeat (first | refine xaG ?_ _ | refine xaJ ?_ | refine xaH ?_ _)); exact BK261.out) Try.underlying31 rfl (by kernel_rfl)) rfl ?_
          exact ⟨by first | rfl | (simp [xaL, xaK] <;> rfl) | (simp [*, xaL, xaK] <;> rfl), by repeat (first | (with_reducible first | exact HB.out | apply xaB | apply xaA | apply xaC | refine xaF ?_ GE260.out | refine xaF ?_ GE261.out | refine xaF ?_ GE267.out) | exact HB.out)⟩
         ·
          rw [if_neg c30] at H
          have c30b0 : decide (a3 < a2) = false := decide_eq_false c30
          clear c30
          by_cases c40 : a0 = 1
          ·
           rw [if_pos c40] at H
           have c40b0 : (a0 == 1) = true := beq_iff_eq.mpr c40
           have c40b1 : (a0 != 1) = false := bne_eq_false_iff_eq.mpr c40
           clear c40
           simp only [Option.some.injEq, Prod.mk.injEq] at H
           obtain ⟨rfl, rfl, rfl⟩ := H
           have hnb41 := NB261_260.out;have hnc41 := NB260_261.out
           have hcz42_0 : wc.cell? ⟨gb261, 0, none⟩ = some (.int .i64 x262000_11) := (xaE BK261.out 0).trans rfl
           have hcz42_1 : wc.cell? ⟨gb261, 1, none⟩ = some (.int .i64 x262001_11) := (xaE BK261.out 1).trans rfl
           have hfz42_0 := xaD BK261.out 0;have hfz42_1 := xaD BK261.out 1
           go_wp2
           refine bodyPost_ret (xeB rfl _ _ gb261 31 #[.int .i64 (wrap64 (a3 - a2)), .int .i64 360] (0, 0) _ rfl (by (with_reducible repeat (first | refine xaG ?_ _ | refine xaJ ?_ | refine xaH ?_ _)); refine xcH (cs := #[.int .i64 (wrap64 (a3 - a2)), .int .i64 x262001_11]) ?_ 1 _ rfl; (with_reducible repeat (first | refine xaG ?_ _ | refine xaJ ?_ | refine xaH ?_ _)); refine xcH (cs := #[.int .i64 x262000_11, .int .i64 x262001_11]) ?_ 0 _ rfl; (with_reducible repeat (first | refine xaG ?_ _ | refine xaJ ?_ | refine xaH ?_ _)); exact BK261.out) Try.underlying31 rfl (by kernel_rfl)) rfl ?_
           exact ⟨by first | rfl | (simp [xaL, xaK] <;> rfl) | (simp [*, xaL, xaK] <;> rfl), by repeat (first | (with_reducible first | exact HB.out | apply xaB | apply xaA | apply xaC | refine xaF ?_ GE260.out | refine xaF ?_ GE261.out) | exact HB.out)⟩
          ·
           rw [if_neg c40] at H
           have c40b0 : (a0 == 1) = false := beq_eq_false_iff_ne.mpr c40
           have c40b1 : (a0 != 1) = true := bne_iff_ne.mpr c40
           by_cases c43 : a0 = 2
           ·
            rw [if_pos c43] at H
            have c43b0 : (a0 == 2) = true := beq_iff_eq.mpr c43
            have c43b1 : (a0 != 2) = false := bne_eq_false_iff_eq.mpr c43
            clear c43
            simp only [Option.some.injEq, Prod.mk.injEq] at H
            obtain ⟨rfl, rfl, rfl⟩ := H
            have hnb44 := NB261_260.out;have hnc44 := NB260_261.out
            have hcz45_0 : wc.cell? ⟨gb261, 0, none⟩ = some (.int .i64 x262000_11) := (xaE BK261.out 0).trans rfl
            have hcz45_1 : wc.cell? ⟨gb261, 1, none⟩ = some (.int .i64 x262001_11) := (xaE BK261.out 1).trans rfl
            have hfz45_0 := xaD BK261.out 0;have hfz45_1 := xaD BK261.out 1
            go_wp2
            refine bodyPost_ret (xeB rfl _ _ gb261 31 #[.int .i64 (wrap64 (a3 - a2)), .int .i64 365] (0, 0) _ rfl (by (with_reducible repeat (first | refine xaG ?_ _ | refine xaJ ?_ | refine xaH ?_ _)); refine xcH (cs := #[.int .i64 (wrap64 (a3 - a2)), .int .i64 x262001_11]) ?_ 1 _ rfl; (with_reducible repeat (first | refine xaG ?_ _ | refine xaJ ?_ | refine xaH ?_ _)); refine xcH (cs := #[.int .i64 x262000_11, .int .i64 x262001_11]) ?_ 0 _ rfl; (with_reducible repeat (first | refine xaG ?_ _ | refine xaJ ?_ | refine xaH ?_ _)); exact BK261.out) Try.underlying31 rfl (by kernel_rfl)) rfl ?_
            exact ⟨by first | rfl | (simp [xaL, xaK] <;> rfl) | (simp [*, xaL, xaK] <;> rfl), by repeat (first | (with_reducible first | exact HB.out | apply xaB | apply xaA | apply xaC | refine xaF ?_ GE260.out | refine xaF ?_ GE261.out) | exact HB.out)⟩
           ·
            rw [if_neg c43] at H
            have c43b0 : (a0 == 2) = false := beq_eq_false_iff_ne.mpr c43
            have c43b1 : (a0 != 2) = true := bne_iff_ne.mpr c43
            by_cases c46 : a0 = 3
            ·
             rw [if_pos c46] at H
             have c46b0 : (a0 == 3) = true := beq_iff_eq.mpr c46
             have c46b1 : (a0 != 3) = false := bne_eq_false_iff_eq.mpr c46
             clear c46;replace H := Option.bind_eq_some_iff.mp H
             obtain ⟨t268, A470, H⟩ := H
             replace H : (some (t268, 133590, 0)) = some (r1, r2, r3) := H
             have A47 := Aside0.mk A470;clear A470
             simp only [Option.some.injEq, Prod.mk.injEq] at H
             obtain ⟨rfl, rfl, rfl⟩ := H
             go_wp2_with (first | ((with_reducible refine xaQ (f := 64) rfl ?_); refine goesL_ (some 84) rfl rfl Try.func64 (by kernel_rfl) rfl #[.int .i64 a2, .int .i64 a3] rfl (by (try simp only [List.map_toArray, List.map_cons, List.map_nil]); first | done | rfl | (simp only [List.length_drop, List.length_take]; rfl)) ?_; (with_reducible refine (xaW.calls kj22 a2 a3 t268 _ A47.out).mono ?_); rintro e w48 ⟨rfl, hb⟩; refine ⟨_, rfl, ?_⟩; have n0_ := Aside0.mk (xaY (g := gb260) (o := .cells #[.int .i64 a1_0, .slice A1_1 l1_1.length c1_1] 24 (0, 0)) (by (with_reducible repeat (first | refine xaG ?_ _ | refine xaJ ?_ | refine xaH ?_ _)); exact BK260.out) hb); have n1_ := Aside0.mk (xaY (g := gb261) (o := .cells #[.int .i64 x262000_11, .int .i64 x262001_11] 31 (0, 0)) (by (with_reducible repeat (first | refine xaG ?_ _ | refine xaJ ?_ | refine xaH ?_ _)); exact BK261.out) hb); have n2_ := Aside0.mk (xaP (by repeat (first | (with_reducible first | exact HB.out | apply xaB | apply xaA | apply xaC | refine xaF ?_ GE260.out | refine xaF ?_ GE261.out) | exact HB.out)) hb); clear BK260; clear BK261; clear HB; have BK260 := n0_; have BK261 := n1_; have HB := n2_; clear n0_ n1_ n2_; (try clear hb); (try clear hb2); (try clear hk); (try clear hi); have hnb49 := NB261_260.out; have hnc49 := NB260_261.out; have hcz50_0 : w48.cell? ⟨gb261, 0, none⟩ = some (.int .i64 x262000_11) := (xaE BK261.out 0).trans rfl; have hcz50_1 : w48.cell? ⟨gb261, 1, none⟩ = some (.int .i64 x262001_11) := (xaE BK261.out 1).trans rfl; have hfz50_0 := xaD BK261.out 0; have hfz50_1 := xaD BK261.out 1))
             refine bodyPost_ret (xeB rfl _ _ gb261 31 #[.int .i64 t268, .int .i64 133590] (0, 0) _ rfl (by (with_reducible repeat (first | refine xaG ?_ _ | refine xaJ ?_ | refine xaH ?_ _)); refine xcH (cs := #[.int .i64 t268, .int .i64 x262001_11]) ?_ 1 _ rfl; (with_reducible repeat (first | refine xaG ?_ _ | refine xaJ ?_ | refine xaH ?_ _)); refine xcH (cs := #[.int .i64 x262000_11, .int .i64 x262001_11]) ?_ 0 _ rfl; (with_reducible repeat (first | refine xaG ?_ _ | refine xaJ ?_ | refine xaH ?_ _)); exact BK261.out) Try.underlying31 rfl (by kernel_rfl)) rfl ?_
             exact ⟨by first | rfl | (simp [xaL, xaK] <;> rfl) | (simp [*, xaL, xaK] <;> rfl), by repeat (first | (with_reducible first | exact HB.out | apply xaB | apply xaA | apply xaC | refine xaF ?_ GE260.out | refine xaF ?_ GE261.out) | exact HB.out)⟩
            ·
             rw [if_neg c46] at H
             have c46b0 : (a0 == 3) = false := beq_eq_false_iff_ne.mpr c46
             have c46b1 : (a0 != 3) = true := bne_iff_ne.mpr c46
             by_cases c51 : a0 = 6
             ·
              rw [if_pos c51] at H
              have c51b0 : (a0 == 6) = true := beq_iff_eq.mpr c51
              have c51b1 : (a0 != 6) = false := bne_eq_false_iff_eq.mpr c51
              clear c51;replace H := Option.bind_eq_some_iff.mp H
              obtain ⟨⟨t269, t270⟩, A520, H⟩ := H
              replace H : (some (t269, 252, t270)) = some (r1, r2, r3) := H
              have A52 := Aside0.mk A520;clear A520
              simp only [Option.some.injEq, Prod.mk.injEq] at H
              obtain ⟨rfl, rfl, rfl⟩ := H
              have hnb53 := NB260_261.out;have hnc53 := NB261_260.out
              have hcz54_0 : wc.cell? ⟨gb260, 0, none⟩ = some (.int .i64 a1_0) := (xaE BK260.out 0).trans rfl
              have hcz54_1 : wc.cell? ⟨gb260, 1, none⟩ = some (.slice A1_1 l1_1.length c1_1) := (xaE BK260.out 1).trans rfl
              have hfz54_0 := xaD BK260.out 0;have hfz54_1 := xaD BK260.out 1
              go_wp2_with (first | ((with_reducible refine xaQ (f := 43) rfl ?_); refine goesL_ (some 92) rfl rfl Try.func43 (by kernel_rfl) rfl #[.agg #[.int .i64 a1_0, .slice A1_1 l1_1.length c1_1], .int .i64 a2, .int .i64 a3] rfl (by (try simp only [List.map_toArray, List.map_cons, List.map_nil]); first | done | rfl | (simp only [List.length_drop, List.length_take]; rfl)) ?_; (with_reducible refine (xbB.calls kj22 a1_0 _ _ l1_1 a2 a3 t269 t270 _ ?side1 ?side2 A52.out).mono ?_); (case side1 => repeat (first | exact (Kd.xbT HR1_1.out HB.out) | (with_reducible refine Kd.xbF ?_ _) | (with_reducible refine Kd.xbE ?_ _) | (with_reducible refine Kd.C_drew ?_))); (case side2 => exact HC1_1.out); rintro e w55 ⟨rfl, hb⟩; refine ⟨_, rfl, ?_⟩; have n0_ := Aside0.mk (xaY (g := gb260) (o := .cells #[.int .i64 a1_0, .slice A1_1 l1_1.length c1_1] 24 (0, 0)) (by (with_reducible repeat (first | refine xaG ?_ _ | refine xaJ ?_ | refine xaH ?_ _)); exact BK260.out) hb); have n1_ := Aside0.mk (xaY (g := gb261) (o := .cells #[.int .i64 x262000_11, .int .i64 x262001_11] 31 (0, 0)) (by (with_reducible repeat (first | refine xaG ?_ _ | refine xaJ ?_ | refine xaH ?_ _)); exact BK261.out) hb); have n2_ := Aside0.mk (xaP (by repeat (first | (with_reducible first | exact HB.out | apply xaB | apply xaA | apply xaC | refine xaF ?_ GE260.out | refine xaF ?_ GE261.out) | exact HB.out)) hb); clear BK260; clear BK261; clear HB; have BK260 := n0_; have BK261 := n1_; have HB := n2_; clear n0_ n1_ n2_; (try clear hb); (try clear hb2); (try clear hk); (try clear hi); have hcz56_0 : w55.cell? ⟨gb261, 0, none⟩ = some (.int .i64 x262000_11) := (xaE BK261.out 0).trans rfl; have hcz56_1 : w55.cell? ⟨gb261, 1, none⟩ = some (.int .i64 x262001_11) := (xaE BK261.out 1).trans rfl; have hfz56_0 := xaD BK261.out 0; have hfz56_1 := xaD BK261.out 1))
              refine bodyPost_ret (xeB rfl _ _ gb261 31 #[.int .i64 t269, .int .i64 252] (0, 0) _ rfl (by (with_reducible repeat (first | refine xaG ?_ _ | refine xaJ ?_ | refine xaH ?_ _)); refine xcH (cs := #[.int .i64 t269, .int .i64 x262001_11]) ?_ 1 _ rfl; (with_reducible repeat (first | refine xaG ?_ _ | refine xaJ ?_ | refine xaH ?_ _)); refine xcH (cs := #[.int .i64 x262000_11, .int .i64 x262001_11]) ?_ 0 _ rfl; (with_reducible repeat (first | refine xaG ?_ _ | refine xaJ ?_ | refine xaH ?_ _)); exact BK261.out) Try.underlying31 rfl (by kernel_rfl)) rfl ?_
              exact ⟨by first | rfl | (simp [xaL, xaK] <;> rfl) | (simp [*, xaL, xaK] <;> rfl), by repeat (first | (with_reducible first | exact HB.out | apply xaB | apply xaA | apply xaC | refine xaF ?_ GE260.out | refine xaF ?_ GE261.out) | exact HB.out)⟩
             ·
              rw [if_neg c51] at H
              have c51b0 : (a0 == 6) = false := beq_eq_false_iff_ne.mpr c51
              have c51b1 : (a0 != 6) = true := bne_iff_ne.mpr c51
              replace H := Option.bind_eq_some_iff.mp H
              obtain ⟨t271, A570, H⟩ := H
              replace H : (some (t271, 360, 0)) = some (r1, r2, r3) := H
              have A57 := Aside0.mk A570;clear A570
              simp only [Option.some.injEq, Prod.mk.injEq] at H
              obtain ⟨rfl, rfl, rfl⟩ := H
              go_wp2_with (first | ((with_reducible refine xaQ (f := 65) rfl ?_); refine goesL_ (some 101) rfl rfl Try.func65 (by kernel_rfl) rfl #[.int .i64 a0, .int .i64 a2, .int .i64 a3] rfl (by (try simp only [List.map_toArray, List.map_cons, List.map_nil]); first | done | rfl | (simp only [List.length_drop, List.length_take]; rfl)) ?_; (with_reducible refine (xdP.calls kj22 a0 a2 a3 t271 _ A57.out).mono ?_); rintro e w58 ⟨rfl, hb⟩; refine ⟨_, rfl, ?_⟩; have n0_ := Aside0.mk (xaY (g := gb260) (o := .cells #[.int .i64 a1_0, .slice A1_1 l1_1.length c1_1] 24 (0, 0)) (by (with_reducible repeat (first | refine xaG ?_ _ | refine xaJ ?_ | refine xaH ?_ _)); exact BK260.out) hb); have n1_ := Aside0.mk (xaY (g := gb261) (o := .cells #[.int .i64 x262000_11, .int .i64 x262001_11] 31 (0, 0)) (by (with_reducible repeat (first | refine xaG ?_ _ | refine xaJ ?_ | refine xaH ?_ _)); exact BK261.out) hb); have n2_ := Aside0.mk (xaP (by repeat (first | (with_reducible first | exact HB.out | apply xaB | apply xaA | apply xaC | refine xaF ?_ GE260.out | refine xaF ?_ GE261.out) | exact HB.out)) hb); clear BK260; clear BK261; clear HB; have BK260 := n0_; have BK261 := n1_; have HB := n2_; clear n0_ n1_ n2_; (try clear hb); (try clear hb2); (try clear hk); (try clear hi); have hnb59 := NB261_260.out; have hnc59 := NB260_261.out; have hcz60_0 : w58.cell? ⟨gb261, 0, none⟩ = some (.int .i64 x262000_11) := (xaE BK261.out 0).trans rfl; have hcz60_1 : w58.cell? ⟨gb261, 1, none⟩ = some (.int .i64 x262001_11) := (xaE BK261.out 1).trans rfl; have hfz60_0 := xaD BK261.out 0; have hfz60_1 := xaD BK261.out 1))
              refine bodyPost_ret (xeB rfl _ _ gb261 31 #[.int .i64 t271, .int .i64 360] (0, 0) _ rfl (by (with_reducible repeat (first | refine xaG ?_ _ | refine xaJ ?_ | refine xaH ?_ _)); refine xcH (cs := #[.int .i64 t271, .int .i64 x262001_11]) ?_ 1 _ rfl; (with_reducible repeat (first | refine xaG ?_ _ | refine xaJ ?_ | refine xaH ?_ _)); refine xcH (cs := #[.int .i64 x262000_11, .int .i64 x262001_11]) ?_ 0 _ rfl; (with_reducible repeat (first | refine xaG ?_ _ | refine xaJ ?_ | refine xaH ?_ _)); exact BK261.out) Try.underlying31 rfl (by kernel_rfl)) rfl ?_
              exact ⟨by first | rfl | (simp [xaL, xaK] <;> rfl) | (simp [*, xaL, xaK] <;> rfl), by repeat (first | (with_reducible first | exact HB.out | apply xaB | apply xaA | apply xaC | refine xaF ?_ GE260.out | refine xaF ?_ GE261.out) | exact HB.out)⟩
end Go.Proofs.Ytoncignjcgjhhaa.Q
namespace Go.Proofs.Ytoncignjcgjhhaa.N
open Go.RowKit Go.Proofs.YtoncignjcgjhhaaW.PrintWords Go.Proofs.YtoncignjcgjhhaaW.PrintLast Go.Proofs.YtoncignjcgjhhaaW.PrintMore
open Go.Proofs.Ytoncignjcgjhhaa.Q
open Go.Proofs.Ytoncignjcgjhhaa.L (w64 td tm tm0)
theorem ev_ite {α : Type} {p : Prop} [Decidable p] {g h : Nat → Option α} {r : α} (h1 : p → Ev g r) (h2 : ¬ p → Ev h r) : Ev (fun q => if p then g q else h q) r := by
 by_cases hp : p
 ·
  exact Ev.congr (fun q => if_pos hp) (h1 hp)
 ·
  exact Ev.congr (fun q => if_neg hp) (h2 hp)
def lsum : Nat → Int
  | 0 => 0
  | f + 1 => lsum f + (if M.leap (1900 + (f : Int)) = true then 366 else 0)
theorem xhM : ∀ f, 0 ≤ lsum f ∧ lsum f ≤ 366 * f
  | 0 => by unfold lsum; omega
  | f + 1 => by have := xhM f; unfold lsum; split <;> (push_cast; omega)
def ly (y n : Int) : Int := lsum (y - 1900).toNat + (if M.leap y = true then n - M.before y else 0)
def leaps (n : Int) : Int := ly (M.civY n) n
theorem ly_end {y : Int} (h : 1900 ≤ y) : ly (y + 1) (M.before (y + 1)) = ly y (M.before (y + 1)) := by
 unfold ly
 rw [show (y + 1 - 1900).toNat = (y - 1900).toNat + 1 by omega, lsum, show 1900 + ((y - 1900).toNat : Int) = y by omega]
 have hb := M.xdQ y
 have e : M.before (y + 1) - M.before (y + 1) = 0 := by omega
 rw [e]
 have e2 : (if M.leap (y + 1) = true then (0 : Int) else 0) = 0 := by split <;> rfl
 rw [e2]
 cases hl : M.leap y with
 | true => unfold M.lp at hb; rw [hl, if_pos rfl] at hb; rw [if_pos rfl, if_pos rfl]; omega
 | false => rw [if_neg (by decide), if_neg (by decide)]; omega
theorem xhG {n : Int} (h : 0 ≤ n ∧ n ≤ 109572) : 1900 ≤ M.civY n ∧ M.civY n ≤ 2199 ∧ M.before (M.civY n) ≤ n ∧ n < M.before (M.civY n + 1) := M.xdN n h.1 h.2
theorem leaps_y {y n : Int} (hy : 1900 ≤ y) (hn : 0 ≤ n ∧ n ≤ 109572) (h1 : M.before y ≤ n) (h2 : n ≤ M.before (y + 1)) : leaps n = ly y n := by
 obtain ⟨c1, c2, c3, c4⟩ := xhG hn
 unfold leaps
 by_cases he : n = M.before (y + 1)
 ·
  have hy2 : M.before (y + 1) < M.before (y + 1 + 1) := by have := M.xdQ (y + 1); have := M.lp_01 (y + 1); omega
  have : M.civY n = y + 1 := M.xhP c3 c4 (by omega) (by omega)
  rw [this, he, ly_end hy]
 ·
  have : M.civY n = y := M.xhP c3 c4 h1 (by omega)
  rw [this]
theorem ly_rng {y n : Int} (hy : 1900 ≤ y ∧ y ≤ 2200) (h1 : M.before y ≤ n) (h2 : n ≤ M.before (y + 1)) : 0 ≤ ly y n ∧ ly y n ≤ 200000 := by
 have := xhM (y - 1900).toNat
 have hb := M.xdQ y
 have := M.lp_01 y
 unfold ly; split <;> omega
def act (n : Int) : Int := 366 * n - leaps n
def thirty (e : Bool) (a b : Int) : Int :=
 if e = true then wrap64 (wrap64 (wrap64 (wrap64 (360 * wrap64 (M.civY b - M.civY a)) + wrap64 (30 * wrap64 (M.civM b - M.civM a))) + mn (M.civD b) 30) - mn (M.civD a) 30)
 else if mn (M.civD a) 30 = 30 then wrap64 (wrap64 (wrap64 (wrap64 (360 * wrap64 (M.civY b - M.civY a)) + wrap64 (30 * wrap64 (M.civM b - M.civM a))) + mn (M.civD b) 30) - mn (M.civD a) 30)
 else wrap64 (wrap64 (wrap64 (wrap64 (360 * wrap64 (M.civY b - M.civY a)) + wrap64 (30 * wrap64 (M.civM b - M.civM a))) + M.civD b) - mn (M.civD a) 30)
noncomputable def up (kind we : Int) (l : List S63) (a b : Int) : Int × Int × Int :=
 if kind = 1 then (b - a, 360, 0) else if kind = 2 then (b - a, 365, 0) else if kind = 3 then (act b - act a, 133590, 0)
 else if kind = 4 then (thirty false a b, 360, 0) else if kind = 5 then (thirty true a b, 360, 0)
 else ((M.Count we (l.map H.ru) a b).1, 252, (M.Count we (l.map H.ru) a b).2)
open Classical in
noncomputable def frac (kind we : Int) (l : List S63) (a b : Int) : Int × Int × Int :=
 if kind < 1 ∨ 6 < kind then (0, 0, 70)
 else if kind = 6 ∧ ¬ (M.chk we (l.map H.ru)).1 = 0 then (0, 0, (M.chk we (l.map H.ru)).1)
 else if ¬ ((0 ≤ a ∧ a ≤ 109572) ∧ (0 ≤ b ∧ b ≤ 109572)) then (0, 0, 51)
 else if b < a then (wrap64 (-(up kind we l b a).1), (up kind we l b a).2.1, (up kind we l b a).2.2) else up kind we l a b
theorem cis (n : Int) : xfD.f n = some (decide (0 ≤ n ∧ n ≤ 109572)) := by
 unfold xfD.f
 by_cases h : n ≥ 0
 ·
  rw [if_pos h]; simp [h]
 ·
  rw [if_neg h]; simp; omega
theorem leaps_l0 (n : Int) (hn : 0 ≤ n ∧ n ≤ 109572) : ∀ (f : Nat) (i : Nat), 1900 + (i : Int) + f = M.civY n → Ev (fun k => xcJ.l0 k n (M.civY n) (lsum i) (1900 + (i : Int))) (leaps n)
 | 0, i, hf => by
  obtain ⟨c1, c2, c3, c4⟩ := xhG hn
  refine Ev.step (fun k => by rw [xcJ.l0, if_neg (by omega), L.leap, Option.bind_some]) ?_
  have hi : i = (M.civY n - 1900).toNat := by omega
  unfold leaps ly
  refine ev_ite (fun hl => ?_) (fun hl => ?_)
  ·
   rw [if_pos hl]
   have hd : M.isDate (M.civY n) 1 1 := by have := M.xeH (M.civY n) 1; unfold M.isDate; omega
   have ho := L.Of (M.civY n) 1 1
   rw [if_pos hd] at ho
   refine Ev.bind ho (Ev.congr (f := fun _ => some (lsum (M.civY n - 1900).toNat + (n - M.before (M.civY n)))) (fun k => ?_) (Ev.now _))
   have hdo : M.dayOf (M.civY n) 1 1 = M.before (M.civY n) := by unfold M.dayOf; rw [M.cum_1]; omega
   have hr := xhM i;have hb := M.xfU hd
   rw [hdo] at hb
   simp only [hdo]
   rw [w64 (x := n - M.before (M.civY n)) (by omega) (by omega), w64 (by omega) (by omega), hi]
  ·
   rw [if_neg hl, hi, Int.add_zero]
   exact Ev.now _
 | f + 1, i, hf => by
  obtain ⟨c1, c2, c3, c4⟩ := xhG hn
  have hr := xhM i
  have hw1 : wrap64 (lsum i + 366) = lsum i + 366 := w64 (by omega) (by omega)
  have hw2 : wrap64 (1900 + (i : Int) + 1) = 1900 + ((i + 1 : Nat) : Int) := by rw [w64 (by omega) (by omega)]; push_cast; omega
  have hrec := leaps_l0 n hn f (i + 1) (by push_cast; omega)
  refine Ev.step (fun k => by rw [xcJ.l0, if_pos (by omega), L.leap, Option.bind_some, hw1, hw2]) ?_
  rw [lsum] at hrec
  refine ev_ite (fun hl => ?_) (fun hl => ?_)
  ·
   rw [if_pos hl] at hrec; exact hrec
  ·
   rw [if_neg hl, Int.add_zero] at hrec; exact hrec
theorem cleaps (n : Int) (hn : 0 ≤ n ∧ n ≤ 109572) : Ev (fun k => xcJ.f k n) (leaps n) := by
 obtain ⟨c1, c2, c3, c4⟩ := xhG hn
 have hc := L.Civil n
 rw [if_pos hn] at hc
 refine Ev.congr (fun k => by unfold xcJ.f; rfl) (Ev.bind hc ?_)
 have := leaps_l0 n hn (M.civY n - 1900).toNat 0 (by push_cast; omega)
 exact this
theorem cthirty (e : Bool) (a b : Int) (ha : 0 ≤ a ∧ a ≤ 109572) (hb : 0 ≤ b ∧ b ≤ 109572) : Ev (fun k => xdU.f k a b e) (thirty e a b) := by
 have hc := L.Civil a
 rw [if_pos ha] at hc
 have hd := L.Civil b
 rw [if_pos hb] at hd
 refine Ev.congr (fun k => by unfold xdU.f; rfl) (Ev.bind hc (Ev.bind hd ?_))
 unfold thirty
 refine ev_ite (fun h => ?_) (fun h => ev_ite (fun h2 => ?_) (fun h2 => ?_))
 ·
  rw [if_pos h]; exact Ev.now _
 ·
  rw [if_neg h, if_pos h2]; exact Ev.now _
 ·
  rw [if_neg h, if_neg h2]; exact Ev.now _
theorem xhY {n : Int} (hn : 0 ≤ n ∧ n ≤ 109572) : 0 ≤ leaps n ∧ leaps n ≤ 200000 := by
  obtain ⟨c1, c2, c3, c4⟩ := xhG hn
  exact ly_rng ⟨c1, by omega⟩ c3 (by omega)
theorem cCount {l : List S63} (hw : wfL l) (we a b : Int) : xfW.f we l a b = some (M.Count we (l.map H.ru) a b) := if_pos hw
theorem cChk {l : List S63} (hw : wfL l) (we : Int) : xfM.f we l = some (M.chk we (l.map H.ru)) := if_pos hw
theorem cj2 (kind we : Int) (l : List S63) (a b : Int) (hw : wfL l) (hk : 1 ≤ kind ∧ kind ≤ 6) (ha : 0 ≤ a ∧ a ≤ 109572) (hb : 0 ≤ b ∧ b ≤ 109572) (h : ¬ b < a) : Ev (fun k => xaZ.j2 k kind a b 0 0 false we l) (up kind we l a b) := by
 refine Ev.step (fun k => by rw [xaZ.j2, if_neg (by decide), if_neg h]) ?_
 have hw1 : wrap64 (b - a) = b - a := w64 (by omega) (by omega)
 unfold up
 refine ev_ite (fun k2 => ?_) (fun k2 => ev_ite (fun k1 => ?_) (fun k1 => ev_ite (fun k3 => ?_) (fun k3 => ev_ite (fun k5 => ?_) (fun k5 => ev_ite (fun k4 => ?_) (fun k4 => ev_ite (fun k6 => ?_) (fun k6 => ?_))))))
 ·
  rw [if_neg (show ¬ kind = 1 by omega), if_pos k2, hw1]; exact Ev.now _
 ·
  rw [if_pos k1, hw1]; exact Ev.now _
 ·
  rw [if_neg k1, if_neg k2, if_pos k3]
  refine Ev.bind (cleaps b hb) (Ev.bind (cleaps a ha) (Ev.congr (f := fun _ => some (act b - act a, 133590, 0)) (fun k => ?_) (Ev.now _)))
  have r1 := xhY ha;have r2 := xhY hb
  rw [hw1, w64 (x := leaps b - leaps a) (by omega) (by omega), w64 (x := b - a - (leaps b - leaps a)) (by omega) (by omega), w64 (x := 366 * (b - a - (leaps b - leaps a))) (by omega) (by omega), w64 (x := 365 * (leaps b - leaps a)) (by omega) (by omega), w64 (by omega) (by omega)]
  unfold act
  congr 2
  omega
 ·
  rw [if_neg k1, if_neg k2, if_neg k3, if_neg (show ¬ kind = 4 by omega), if_pos k5]
  exact Ev.bind (cthirty true a b ha hb) (Ev.now _)
 ·
  rw [if_neg k1, if_neg k2, if_neg k3, if_pos k4]
  exact Ev.bind (cthirty false a b ha hb) (Ev.now _)
 ·
  rw [if_neg k1, if_neg k2, if_neg k3, if_neg k4, if_neg k5]
  exact Ev.congr (fun k => by rw [cCount hw, Option.bind_some]) (Ev.now _)
 ·
  omega
theorem cUp (kind we : Int) (l : List S63) (a b : Int) (hw : wfL l) (hk : 1 ≤ kind ∧ kind ≤ 6) (hc : kind = 6 → (M.chk we (l.map H.ru)).1 = 0) (ha : 0 ≤ a ∧ a ≤ 109572) (hb : 0 ≤ b ∧ b ≤ 109572) (R : Int × Int × Int) (h : Ev (fun k => xaZ.j2 k kind a b 0 0 false we l) R) : Ev (fun k => xaZ.f k kind we l a b) R := by
 have hj1 : Ev (fun k => xaZ.j1 k kind a b 0 0 we l) R :=
  Ev.step (fun k => by rw [xaZ.j1, cis, Option.bind_some, decide_eq_true ha, if_pos rfl, cis, Option.bind_some, decide_eq_true hb]; rfl) h
 refine Ev.step (fun k => by rw [xaZ.f, if_neg (by omega), decide_eq_false (by omega)]) ?_
 refine Ev.step (fun k => by rw [xaZ.j0, if_neg (by decide)]) ?_
 refine ev_ite (fun k6 => ?_) (fun _ => hj1)
 exact Ev.congr (fun k => by rw [cChk hw, Option.bind_some, if_pos (hc k6)]) hj1
theorem cFrac (kind we : Int) (l : List S63) (a b : Int) (hw : wfL l) : Ev (fun k => xaZ.f k kind we l a b) (frac kind we l a b) := by
 unfold frac
 by_cases hk : kind < 1 ∨ 6 < kind
 ·
  rw [if_pos hk]
  have hj : Ev (fun k => xaZ.j0 k kind a b 0 0 true we l) ((0, 0, 70) : Int × Int × Int) := Ev.step (fun k => by rw [xaZ.j0, if_pos rfl]) (Ev.now _)
  refine Ev.step (fun k => by rw [xaZ.f]) (ev_ite (fun _ => hj) (fun h => ?_))
  exact Ev.congr (fun k => by rw [decide_eq_true (show kind > 6 by omega)]) hj
 ·
  rw [if_neg hk]
  by_cases hc : kind = 6 ∧ ¬ (M.chk we (l.map H.ru)).1 = 0
  ·
   rw [if_pos hc]
   refine Ev.step (fun k => by rw [xaZ.f, if_neg (by omega), decide_eq_false (by omega)]) ?_
   refine (Ev.step (f := fun _ => some ((0, 0, (M.chk we (l.map H.ru)).1) : Int × Int × Int)) (fun k => by rw [xaZ.j0, if_neg (by decide), if_pos hc.1, cChk hw, Option.bind_some, if_neg hc.2]) (Ev.now _))
  ·
   rw [if_neg hc]
   have hc6 : kind = 6 → (M.chk we (l.map H.ru)).1 = 0 := fun h => Classical.byContradiction (fun hn => hc ⟨h, hn⟩)
   by_cases hd : (0 ≤ a ∧ a ≤ 109572) ∧ (0 ≤ b ∧ b ≤ 109572)
   ·
    rw [if_neg (fun h => h hd)]
    by_cases hlt : b < a
    ·
     rw [if_pos hlt]
     refine cUp kind we l a b hw (by omega) hc6 hd.1 hd.2 _ (Ev.step (fun k => by rw [xaZ.j2, if_neg (by decide), if_pos hlt]) ?_)
     exact Ev.bind (cUp kind we l b a hw (by omega) hc6 hd.2 hd.1 _ (cj2 kind we l b a hw (by omega) hd.2 hd.1 (by omega))) (Ev.now _)
    ·
     rw [if_neg hlt]
     exact cUp kind we l a b hw (by omega) hc6 hd.1 hd.2 _ (cj2 kind we l a b hw (by omega) hd.1 hd.2 hlt)
   ·
    rw [if_pos hd]
    have hj2 : Ev (fun k => xaZ.j2 k kind a b 0 0 true we l) ((0, 0, 51) : Int × Int × Int) := Ev.step (fun k => by rw [xaZ.j2, if_pos rfl]) (Ev.now _)
    have hj1 : Ev (fun k => xaZ.j1 k kind a b 0 0 we l) ((0, 0, 51) : Int × Int × Int) := by
     by_cases ha : 0 ≤ a ∧ a ≤ 109572
     ·
      have hb : ¬ (0 ≤ b ∧ b ≤ 109572) := fun h => hd ⟨ha, h⟩
      exact Ev.step (fun k => by rw [xaZ.j1, cis, Option.bind_some, decide_eq_true ha, if_pos rfl, cis, Option.bind_some, decide_eq_false hb]; rfl) hj2
     ·
      exact Ev.step (fun k => by rw [xaZ.j1, cis, Option.bind_some, decide_eq_false ha, if_neg (by decide)]) hj2
    refine Ev.step (fun k => by rw [xaZ.f, if_neg (by omega), decide_eq_false (by omega)]) ?_
    refine Ev.step (fun k => by rw [xaZ.j0, if_neg (by decide)]) ?_
    refine ev_ite (fun k6 => ?_) (fun _ => hj1)
    exact Ev.congr (fun k => by rw [cChk hw, Option.bind_some, if_pos (hc6 k6)]) hj1
end Go.Proofs.Ytoncignjcgjhhaa.N
namespace Go.Proofs.Ytoncignjcgjhhaa.N
open Go.RowKit Go.Proofs.YtoncignjcgjhhaaW.PrintWords Go.Proofs.YtoncignjcgjhhaaW.PrintLast Go.Proofs.YtoncignjcgjhhaaW.PrintMore
open Go.Proofs.Ytoncignjcgjhhaa.Q
open Go.Proofs.Ytoncignjcgjhhaa.L (w64 td tm tm0)
theorem act_l0 (b : Int) (hb : 0 ≤ b ∧ b ≤ 109572) : ∀ (f : Nat) (y a o : Int), 2199 - y = f → 1900 ≤ y → M.before y ≤ a → a ≤ b → a ≤ M.before (y + 1) → 0 ≤ o → o ≤ 366 * a →
  Ev (fun k => xaW.l0 k a b o y) (o + (366 * (b - a) - (leaps b - ly y a)))
 | f, y, a, o, hf, hy, h1, h2, h3, h4, h5 => by
  have h0 : 0 ≤ a := by have := M.xeD hy; rw [M.xfX] at this; omega
  by_cases hlt : a < b
  ·
   have hs := M.xdQ y;have hlp := M.lp_01 y
   have hend : ∃ e : Int, e = M.before (y + 1) ∧ ∀ T : Int × Int → Nat → Option Int, ∀ R : Int, (∀ e2 : Int, (e2 = 0 ∨ (¬ e2 = 0 ∧ e = 109573)) → Ev (fun k => T (if e2 = 0 then e else 0, e2) k) R) → Ev (fun k => (xbG.f k (wrap64 (y + 1)) 1 1).bind fun bt => T bt k) R := by
    refine ⟨_, rfl, fun T R hT => ?_⟩
    have ho := Go.Proofs.Ytoncignjcgjhhaa.R.Of (y + 1) 1 1
    have hw : wrap64 (y + 1) = y + 1 := w64 (by omega) (by omega)
    refine Ev.congr (fun k => by rw [hw]) (Ev.bind ho ?_)
    by_cases hd : M.isDate (y + 1) 1 1
    ·
     rw [if_pos hd]
     have hdo : M.dayOf (y + 1) 1 1 = M.before (y + 1) := by unfold M.dayOf; rw [M.cum_1]; omega
     rw [hdo]
     exact hT 0 (.inl rfl)
    ·
     rw [if_neg hd]
     have hy2 : y = 2199 := by
      have := M.xeH (y + 1) 1
      unfold M.isDate at hd; omega
     have := hT 50 (.inr ⟨by decide, by rw [hy2]; exact M.xgH⟩)
     exact this
   obtain ⟨e, he, hof⟩ := hend
   have hlyr := ly_rng (y := y) ⟨hy, by omega⟩ h1 h3
   -- one year
   have hone : ∀ (d : Int), (M.leap y = true → d = 365) → (M.leap y = false → d = 366) → Ev (fun k => xaW.l0 k (wrap64 (a + wrap64 (mn e b - a))) b (wrap64 (o + wrap64 (d * wrap64 (mn e b - a)))) (wrap64 (y + 1))) (o + (366 * (b - a) - (leaps b - ly y a))) := by
    intro d hd1 hd2
    have hdr : d = 365 ∨ d = 366 := by cases hl : M.leap y; exact .inr (hd2 hl); exact .inl (hd1 hl)
    obtain ⟨m, hm, hm1⟩ : ∃ m : Int, mn e b = m ∧ ((e < b ∧ m = e) ∨ (b ≤ e ∧ m = b)) := by
     refine ⟨_, rfl, ?_⟩
     unfold mn
     split <;> omega
    have hml : a ≤ m ∧ m ≤ b := by omega
    have hdm : ∀ x : Int, 0 ≤ x → x ≤ 109572 → 0 ≤ d * x ∧ d * x ≤ 366 * x := by
     intro x x0 x1; rcases hdr with h | h <;> (rw [h]; omega)
    have hdm' := hdm (m - a) (by omega) (by omega)
    have e1 : wrap64 (m - a) = m - a := w64 (by omega) (by omega)
    have e2 : wrap64 (a + (m - a)) = m := by rw [w64 (by omega) (by omega)]; omega
    have e3 : wrap64 (d * (m - a)) = d * (m - a) := w64 (by omega) (by omega)
    have e4 : wrap64 (o + d * (m - a)) = o + d * (m - a) := w64 (by omega) (by omega)
    have e5 : wrap64 (y + 1) = y + 1 := w64 (by omega) (by omega)
    rw [hm, e1, e2, e3, e4, e5]
    have hstep : d * (m - a) = 366 * (m - a) - (ly y m - ly y a) := by
     unfold ly
     cases hl : M.leap y with
     | true => rw [hd1 hl, if_pos rfl, if_pos rfl]; omega
     | false => rw [hd2 hl, if_neg (by decide), if_neg (by decide)]; omega
    by_cases hbe : b ≤ e
    ·
     have hmb : m = b := by omega
     subst hmb
     rw [leaps_y hy hb (by omega) (by omega)]
     have hnb : ¬ m < m := by omega
     have hx : Ev (fun k => xaW.j1 k m m (o + d * (m - a)) (y + 1) false) (o + (366 * (m - a) - (ly y m - ly y a))) := by
      rw [hstep]
      exact Ev.step (fun k => by rw [xaW.j1, if_neg (by decide)]) (Ev.now _)
     exact Ev.step (fun k => by rw [xaW.l0]) (ev_ite (fun _ => Ev.congr (fun k => by rw [decide_eq_false hnb]) hx) (fun _ => hx))
    ·
     have hme : m = e := by omega
     have hy3 : y + 1 ≤ 2199 := by
      by_cases h : y = 2199
      ·
       rw [h] at he; have := M.xgH; rw [show (2199 : Int) + 1 = 2200 by decide] at he; omega
      ·
       omega
     match f, hf with
     | 0, hf => omega
     | f + 1, hf =>
      have hs2 := M.xdQ (y + 1)
      have hlp2 := M.lp_01 (y + 1)
      have := act_l0 b hb f (y + 1) m (o + d * (m - a)) (by omega) (by omega) (by omega) (by omega) (by omega) (by omega) (by omega)
      rw [hstep] at this ⊢
      rw [hme, he, ly_end hy] at this
      rw [hme, he]
      have e6 : o + (366 * (M.before (y + 1) - a) - (ly y (M.before (y + 1)) - ly y a)) + (366 * (b - M.before (y + 1)) - (leaps b - ly y (M.before (y + 1)))) = o + (366 * (b - a) - (leaps b - ly y a)) := by omega
      rw [e6] at this
      exact this
   have hyle : y ≤ 2199 := by omega
   refine Ev.step (fun k => by rw [xaW.l0, if_pos hyle, decide_eq_true hlt]) (Ev.step (fun k => by rw [xaW.j1, if_pos rfl]) ?_)
   refine hof (fun bt k => if bt.2 = 0 then ((xbV.f y).bind fun t => (if t = true then (xaW.l0 k (wrap64 (a + (wrap64 ((mn bt.1 b) - a)))) b (wrap64 (o + (wrap64 (365 * (wrap64 ((mn bt.1 b) - a)))))) (wrap64 (y + 1))) else (xaW.l0 k (wrap64 (a + (wrap64 ((mn bt.1 b) - a)))) b (wrap64 (o + (wrap64 (366 * (wrap64 ((mn bt.1 b) - a)))))) (wrap64 (y + 1))))) else ((xbV.f y).bind fun t => (if t = true then (xaW.l0 k (wrap64 (a + (wrap64 ((mn 109573 b) - a)))) b (wrap64 (o + (wrap64 (365 * (wrap64 ((mn 109573 b) - a)))))) (wrap64 (y + 1))) else (xaW.l0 k (wrap64 (a + (wrap64 ((mn 109573 b) - a)))) b (wrap64 (o + (wrap64 (366 * (wrap64 ((mn 109573 b) - a)))))) (wrap64 (y + 1)))))) _ (fun e2 he2 => ?_)
   rcases he2 with h0 | ⟨h0, h1⟩
   ·
    subst h0
    refine Ev.congr (fun k => by simp only [if_true]; rw [R.Leap, Option.bind_some]) ?_
    refine ev_ite (fun hl => ?_) (fun hl => ?_)
    ·
     exact hone 365 (fun _ => rfl) (fun h => by rw [h] at hl; cases hl)
    ·
     exact hone 366 (fun h => absurd h hl) (fun _ => rfl)
   ·
    refine Ev.congr (fun k => by simp only [if_neg h0]; rw [R.Leap, Option.bind_some, ← h1]) ?_
    refine ev_ite (fun hl => ?_) (fun hl => ?_)
    ·
     exact hone 365 (fun _ => rfl) (fun h => by rw [h] at hl; cases hl)
    ·
     exact hone 366 (fun h => absurd h hl) (fun _ => rfl)
  ·
   have hab : a = b := by omega
   subst hab
   rw [leaps_y hy hb h1 h3]
   have hx : Ev (fun k => xaW.j1 k a a o y false) (o + (366 * (a - a) - (ly y a - ly y a))) := by
    rw [show o + (366 * (a - a) - (ly y a - ly y a)) = o by omega]
    exact Ev.step (fun k => by rw [xaW.j1, if_neg (by decide)]) (Ev.now _)
   exact Ev.step (fun k => by rw [xaW.l0]) (ev_ite (fun _ => Ev.congr (fun k => by rw [decide_eq_false hlt]) hx) (fun _ => hx))
theorem ractual (a b : Int) (ha : 0 ≤ a ∧ a ≤ 109572) (hb : 0 ≤ b ∧ b ≤ 109572) (h : ¬ b < a) : Ev (fun k => xaW.f k a b) (act b - act a) := by
 obtain ⟨c1, c2, c3, c4⟩ := xhG ha
 have hc := R.Civil a
 rw [if_pos ha] at hc
 refine Ev.congr (fun k => by unfold xaW.f; rfl) (Ev.bind hc ?_)
 have := act_l0 b hb (2199 - M.civY a).toNat (M.civY a) a 0 (by omega) c1 c3 (by omega) (by omega) (by omega) (by omega)
 have e : 0 + (366 * (b - a) - (leaps b - ly (M.civY a) a)) = act b - act a := by
  unfold act
  show 0 + (366 * (b - a) - (leaps b - leaps a)) = _
  omega
 rw [e] at this
 exact this
theorem rthirty (kind : Int) (a b : Int) (ha : 0 ≤ a ∧ a ≤ 109572) (hb : 0 ≤ b ∧ b ≤ 109572) : Ev (fun k => xdP.f k kind a b) (thirty (decide (kind = 5)) a b) := by
 have hc := R.Civil a
 rw [if_pos ha] at hc
 have hd := R.Civil b
 rw [if_pos hb] at hd
 refine Ev.congr (fun k => by unfold xdP.f; rfl) (Ev.bind hc (Ev.bind hd ?_))
 unfold thirty
 refine ev_ite (fun h => ?_) (fun h => ev_ite (fun h2 => ?_) (fun h2 => ?_))
 ·
  rw [if_pos (decide_eq_true h)]; exact Ev.now _
 ·
  rw [if_neg (fun e => h (of_decide_eq_true e)), if_pos h2]; exact Ev.now _
 ·
  rw [if_neg (fun e => h (of_decide_eq_true e)), if_neg h2]; exact Ev.now _
theorem rj2 (kind we : Int) (l : List S63) (a b : Int) (hk : 1 ≤ kind ∧ kind ≤ 6) (ha : 0 ≤ a ∧ a ≤ 109572) (hb : 0 ≤ b ∧ b ≤ 109572) (h : ¬ b < a) : Ev (fun k => xaU.j2 k kind a b false we l) (up kind we l a b) := by
 refine Ev.step (fun k => by rw [xaU.j2, if_neg (by decide), if_neg h]) ?_
 have hw1 : wrap64 (b - a) = b - a := w64 (by omega) (by omega)
 unfold up
 refine ev_ite (fun k1 => ?_) (fun k1 => ev_ite (fun k2 => ?_) (fun k2 => ev_ite (fun k3 => ?_) (fun k3 => ev_ite (fun k6 => ?_) (fun k6 => ?_))))
 ·
  rw [if_pos k1, hw1]; exact Ev.now _
 ·
  rw [if_neg k1, if_pos k2, hw1]; exact Ev.now _
 ·
  rw [if_neg k1, if_neg k2, if_pos k3]
  exact Ev.bind (ractual a b ha hb h) (Ev.now _)
 ·
  rw [if_neg k1, if_neg k2, if_neg k3, if_neg (show ¬ kind = 4 by omega), if_neg (show ¬ kind = 5 by omega)]
  exact Ev.bind (R.Count we l a b) (Ev.now _)
 ·
  rw [if_neg k1, if_neg k2, if_neg k3]
  have ht := rthirty kind a b ha hb
  by_cases k4 : kind = 4
  ·
   rw [if_pos k4]; rw [decide_eq_false (show ¬ kind = 5 by omega)] at ht
   exact Ev.bind ht (Ev.now _)
  ·
   rw [if_neg k4, if_pos (show kind = 5 by omega)]; rw [decide_eq_true (show kind = 5 by omega)] at ht
   exact Ev.bind ht (Ev.now _)
theorem rj1 (kind we : Int) (l : List S63) (a b : Int) (R : Int × Int × Int) (hd : ∀ x : Bool, (x = true ↔ ¬ ((0 ≤ a ∧ a ≤ 109572) ∧ (0 ≤ b ∧ b ≤ 109572))) → Ev (fun k => xaU.j2 k kind a b x we l) R) : Ev (fun k => xaU.j1 k kind a b we l) R := by
 refine Ev.step (fun k => by rw [xaU.j1]) (ev_ite (fun h => hd true ?_) (fun h1 => ev_ite (fun h => hd true ?_) (fun h2 => ev_ite (fun h => hd true ?_) (fun h3 => hd _ ?_))))
 ·
  exact ⟨fun _ => by omega, fun _ => rfl⟩
 ·
  exact ⟨fun _ => by omega, fun _ => rfl⟩
 ·
  exact ⟨fun _ => by omega, fun _ => rfl⟩
 ·
  rw [decide_eq_true_iff]; omega
theorem rUp (kind we : Int) (l : List S63) (a b : Int) (hk : 1 ≤ kind ∧ kind ≤ 6) (hc : kind = 6 → (M.chk we (l.map H.ru)).1 = 0) (R : Int × Int × Int) (h : Ev (fun k => xaU.j1 k kind a b we l) R) : Ev (fun k => xaU.f k kind we l a b) R := by
 refine Ev.step (fun k => by rw [xaU.f, if_neg (by omega), decide_eq_false (by omega)]) ?_
 refine Ev.step (fun k => by rw [xaU.j0, if_neg (by decide)]) ?_
 refine ev_ite (fun k6 => ?_) (fun _ => h)
 exact Ev.bind (Go.Proofs.Ytoncignjcgjhhaa.R.Check we l) (Ev.congr (fun k => if_pos (hc k6)) h)
theorem rFrac (kind we : Int) (l : List S63) (a b : Int) : Ev (fun k => xaU.f k kind we l a b) (frac kind we l a b) := by
 unfold frac
 by_cases hk : kind < 1 ∨ 6 < kind
 ·
  rw [if_pos hk]
  have hj : Ev (fun k => xaU.j0 k kind a b true we l) ((0, 0, 70) : Int × Int × Int) := Ev.step (fun k => by rw [xaU.j0, if_pos rfl]) (Ev.now _)
  refine Ev.step (fun k => by rw [xaU.f]) (ev_ite (fun _ => hj) (fun h => ?_))
  exact Ev.congr (fun k => by rw [decide_eq_true (show kind > 6 by omega)]) hj
 ·
  rw [if_neg hk]
  by_cases hc : kind = 6 ∧ ¬ (M.chk we (l.map H.ru)).1 = 0
  ·
   rw [if_pos hc]
   refine Ev.step (fun k => by rw [xaU.f, if_neg (by omega), decide_eq_false (by omega)]) ?_
   refine Ev.step (fun k => by rw [xaU.j0, if_neg (by decide), if_pos hc.1]) (Ev.bind (R.Check we l) (Ev.congr (fun k => if_neg hc.2) (Ev.now _)))
  ·
   rw [if_neg hc]
   have hc6 : kind = 6 → (M.chk we (l.map H.ru)).1 = 0 := fun h => Classical.byContradiction (fun hn => hc ⟨h, hn⟩)
   refine rUp kind we l a b (by omega) hc6 _ (rj1 kind we l a b _ (fun x hx => ?_))
   by_cases hd : (0 ≤ a ∧ a ≤ 109572) ∧ (0 ≤ b ∧ b ≤ 109572)
   ·
    rw [if_neg (fun h => h hd)]
    have hxf : x = false := by cases x; rfl; exact absurd hd (hx.1 rfl)
    subst hxf
    by_cases hlt : b < a
    ·
     rw [if_pos hlt]
     refine Ev.step (fun k => by rw [xaU.j2, if_neg (by decide), if_pos hlt]) ?_
     refine Ev.bind (rUp kind we l b a (by omega) hc6 _ (rj1 kind we l b a _ (fun x hx => ?_))) (Ev.now _)
     have hxf : x = false := by cases x; rfl; exact absurd ⟨hd.2, hd.1⟩ (hx.1 rfl)
     subst hxf
     exact rj2 kind we l b a (by omega) hd.2 hd.1 (by omega)
    ·
     rw [if_neg hlt]
     exact rj2 kind we l a b (by omega) hd.1 hd.2 hlt
   ·
    rw [if_pos hd, hx.2 hd]
    exact Ev.step (fun k => by rw [xaU.j2, if_pos rfl]) (Ev.now _)
end Go.Proofs.Ytoncignjcgjhhaa.N
namespace Go.Proofs.Ytoncignjcgjhhaa.N
open Go.RowKit Go.Proofs.YtoncignjcgjhhaaW.PrintWords Go.Proofs.YtoncignjcgjhhaaW.PrintLast Go.Proofs.YtoncignjcgjhhaaW.PrintMore
open Go.Proofs.Ytoncignjcgjhhaa.Q
open Go.Proofs.Ytoncignjcgjhhaa.L (w64 td tm tm0)
theorem cntAdd (we : Int) (l : List M.Rul) (g : Nat) : ∀ (f : Nat) (i : Int), M.cntF we l (f + g) i = M.cntF we l f i + M.cntF we l g (i + f)
 | 0, i => by rw [Nat.zero_add, M.cntF]; simp
 | f + 1, i => by
  rw [show f + 1 + g = (f + g) + 1 by omega, M.cntF, M.cntF, cntAdd we l g f (i + 1), show i + 1 + (f : Int) = i + ((f + 1 : Nat) : Int) by omega]
  omega
theorem cntRng (we : Int) (l : List M.Rul) : ∀ (f : Nat) (i : Int), 0 ≤ M.cntF we l f i ∧ M.cntF we l f i ≤ f
 | 0, i => by rw [M.cntF]; omega
 | f + 1, i => by
  rw [M.cntF]
  have := cntRng we l f (i + 1)
  split <;> (push_cast; omega)
def ahead (kind we : Int) (l : List S63) (n : Int) : Int := if kind = 3 then act n else if kind = 6 then M.cntF we (l.map H.ru) n.toNat 0 else n
def den (kind : Int) : Int := if kind = 1 then 360 else if kind = 2 then 365 else if kind = 3 then 133590 else 252
theorem xhC (kind we : Int) (l : List S63) {n : Int} (h : 0 ≤ n ∧ n ≤ 109572) : -400000 ≤ ahead kind we l n ∧ ahead kind we l n ≤ 41000000 := by
 have h1 := xhY h
 have h2 := cntRng we (l.map H.ru) n.toNat 0
 unfold ahead act
 split
 ·
  omega
 ·
  split <;> omega
theorem up_ahead {kind we : Int} {l : List S63} {a b : Int} (hk : 1 ≤ kind ∧ kind ≤ 6) (h45 : ¬ kind = 4 ∧ ¬ kind = 5) (hc : kind = 6 → (M.chk we (l.map H.ru)).1 = 0) (ha : 0 ≤ a ∧ a ≤ 109572) (hb : 0 ≤ b ∧ b ≤ 109572) (h : ¬ b < a) : up kind we l a b = (ahead kind we l b - ahead kind we l a, den kind, 0) := by
 unfold up ahead den
 by_cases k1 : kind = 1
 ·
  rw [if_pos k1, if_neg (by omega), if_neg (by omega), if_neg (by omega), if_neg (by omega), if_pos k1]
 ·
  rw [if_neg k1]
  by_cases k2 : kind = 2
  ·
   rw [if_pos k2, if_neg (by omega), if_neg (by omega), if_neg (by omega), if_neg (by omega), if_neg k1, if_pos k2]
  ·
   rw [if_neg k2]
   by_cases k3 : kind = 3
   ·
    rw [if_pos k3, if_pos k3, if_pos k3, if_neg k1, if_neg k2, if_pos k3]
   ·
    have k6 : kind = 6 := by omega
    rw [if_neg k3, if_neg h45.1, if_neg h45.2, if_neg k3, if_pos k6, if_neg k3, if_pos k6, if_neg k1, if_neg k2, if_neg k3]
    unfold M.Count
    rw [if_pos (hc k6), if_pos ⟨ha, hb⟩, if_neg h]
    have := cntAdd we (l.map H.ru) (b - a).toNat a.toNat 0
    rw [show a.toNat + (b - a).toNat = b.toNat by omega, show (0 : Int) + (a.toNat : Int) = a by omega] at this
    rw [this]
    congr 1
    omega
theorem frac_ok {kind we : Int} {l : List S63} {a b : Int} (h45 : ¬ kind = 4 ∧ ¬ kind = 5) (h : (frac kind we l a b).2.2 = 0) : frac kind we l a b = (ahead kind we l b - ahead kind we l a, den kind, 0) ∧ (0 ≤ a ∧ a ≤ 109572) ∧ (0 ≤ b ∧ b ≤ 109572) := by
 unfold frac at h ⊢
 by_cases hk : kind < 1 ∨ 6 < kind
 ·
  rw [if_pos hk] at h; exact absurd h (by decide)
 ·
  rw [if_neg hk] at h ⊢
  by_cases hc : kind = 6 ∧ ¬ (M.chk we (l.map H.ru)).1 = 0
  ·
   rw [if_pos hc] at h; exact absurd h hc.2
  ·
   rw [if_neg hc] at h ⊢
   have hc6 : kind = 6 → (M.chk we (l.map H.ru)).1 = 0 := fun h => Classical.byContradiction (fun hn => hc ⟨h, hn⟩)
   by_cases hd : (0 ≤ a ∧ a ≤ 109572) ∧ (0 ≤ b ∧ b ≤ 109572)
   ·
    rw [if_neg (fun h => h hd)] at h ⊢
    refine ⟨?_, hd.1, hd.2⟩
    by_cases hlt : b < a
    ·
     rw [if_pos hlt, up_ahead (by omega) h45 hc6 hd.2 hd.1 (by omega)]
     have r1 := xhC kind we l hd.1;have r2 := xhC kind we l hd.2
     simp only
     rw [w64 (by omega) (by omega)]
     congr 1
     omega
    ·
     rw [if_neg hlt, up_ahead (by omega) h45 hc6 hd.1 hd.2 hlt]
   ·
    rw [if_pos hd] at h; exact absurd h (by decide)
end Go.Proofs.Ytoncignjcgjhhaa.N
