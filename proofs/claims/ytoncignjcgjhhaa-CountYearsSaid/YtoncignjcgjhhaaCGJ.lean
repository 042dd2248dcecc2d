/- Contracts and facts of functions of the program (calendar, dates and their documents), joined in one text by a program of this session. No condition but what each theorem states. -/
import Derived.Test.YtoncignjcgjhhaaCGA
import Derived.Test.YtoncignjcgjhhaaCGI
set_option linter.unusedVariables false
set_option linter.unusedSimpArgs false
namespace Go.Proofs.Ytoncignjcgjhhaa.Q
open Go.RowKit Go.Proofs.YtoncignjcgjhhaaW.PrintWords Go.Proofs.YtoncignjcgjhhaaW.PrintLast Go.Proofs.YtoncignjcgjhhaaW.PrintMore
attribute [local go_sem] xcC xcB xcR xcQ xbX xbW xcF xcE   -- for this text's walks alone
mutual
def xaZ.j0 : Nat → Int → Int → Int → Int → Int → Bool → Int → List (S63) → Option (Int × Int × Int)
  | 0, _, _, _, _, _, _, _, _ => none
  | k + 1, x0, x2, x3, x8, x10, x19, x172000, x172001 => if x19 = true then (some (0, 0, 70)) else (if x0 = 6 then ((xfM.f x172000 x172001).bind fun bt172 => (if bt172.1 = 0 then (xaZ.j1 k x0 x2 x3 x8 x10 x172000 x172001) else (some (0, 0, bt172.1)))) else (xaZ.j1 k x0 x2 x3 x8 x10 x172000 x172001))
def xaZ.j1 : Nat → Int → Int → Int → Int → Int → Int → List (S63) → Option (Int × Int × Int)
  | 0, _, _, _, _, _, _, _ => none
  | k + 1, x0, x2, x3, x8, x10, x172000, x172001 => (xfD.f x2).bind fun t174 => (if t174 = true then ((xfD.f x3).bind fun t175 => (xaZ.j2 k x0 x2 x3 x8 x10 (!t175) x172000 x172001)) else (xaZ.j2 k x0 x2 x3 x8 x10 true x172000 x172001))
def xaZ.j2 : Nat → Int → Int → Int → Int → Int → Bool → Int → List (S63) → Option (Int × Int × Int)
  | 0, _, _, _, _, _, _, _, _ => none
  | k + 1, x0, x2, x3, x8, x10, x37, x172000, x172001 => if x37 = true then (some (0, 0, 51)) else (if x3 < x2 then ((xaZ.f k x0 x172000 x172001 x3 x2).bind fun bt176 => (some (wrap64 (-bt176.1), bt176.2.1, bt176.2.2))) else (if x0 = 2 then (some (wrap64 (x3 - x2), 365, x10)) else (if x0 = 1 then (some (wrap64 (x3 - x2), 360, x10)) else (if x0 = 3 then ((xcJ.f k x3).bind fun t183 => ((xcJ.f k x2).bind fun t184 => (some (wrap64 ((wrap64 (366 * (wrap64 ((wrap64 (x3 - x2)) - (wrap64 (t183 - t184)))))) + (wrap64 (365 * (wrap64 (t183 - t184))))), 133590, x10)))) else (if x0 = 5 then ((xdU.f k x2 x3 true).bind fun t179 => (some (t179, 360, x10))) else (if x0 = 4 then ((xdU.f k x2 x3 false).bind fun t180 => (some (t180, 360, x10))) else (if x0 = 6 then ((xfW.f x172000 x172001 x2 x3).bind fun bt181 => (some (bt181.1, 252, bt181.2))) else (some (x8, 360, x10)))))))))
def xaZ.f : Nat → Int → Int → List (S63) → Int → Int → Option (Int × Int × Int)
  | 0, _, _, _, _, _ => none
  | k + 1, a0, a1_0, l1_1, a2, a3 => if a0 < 1 then (xaZ.j0 k a0 a2 a3 0 0 true a1_0 l1_1) else (xaZ.j0 k a0 a2 a3 0 0 (decide (a0 > 6)) a1_0 l1_1)
end
set_option maxHeartbeats 8000000 in
set_option maxRecDepth 100000 in
theorem xaZ.calls (k : Nat) : ∀ (a0 : Int) (a1_0 : Int) (A1_1 : Option Addr) (c1_1 : Nat) (l1_1 : List (S63)) (a2 : Int) (a3 : Int) (r1 : Int) (r2 : Int) (r3 : Int) (w : World) (hr1_1 : Kd.C k63 w A1_1 l1_1.length l1_1) (hc1_1 : l1_1.length ≤ c1_1) (h : xaZ.f k a0 a1_0 l1_1 a2 a3 = some (r1, r2, r3)),
  Calls Try.prog 27 #[.int .i64 a0, .agg #[.int .i64 a1_0, .slice A1_1 l1_1.length c1_1], .int .i64 a2, .int .i64 a3] w fun e w' => e = .returned (.tuple #[.int .i64 r1, .int .i64 r2, .int .i64 r3]) ∧ Below w.heap.size w w' := by
 induction k using Nat.strongRecOn with
 | _ k ih =>
 intro a0 a1_0 A1_1 c1_1 l1_1 a2 a3 r1 r2 r3 w hr1_1 hc1_1 h
 cases k with
 | zero => exact absurd h (by simp [xaZ.f])
 | succ k =>
 simp only [xaZ.f] at h
 have hu24 := Try.underlying24;have HR1_1 := Aside0.mk hr1_1;have HC1_1 := Aside0.mk hc1_1;clear hr1_1 hc1_1
 have HB := Aside0.mk (Below.refl w.heap.size w)
 have H : (if a0 < 1 then (xaZ.j0 k a0 a2 a3 0 0 true a1_0 l1_1) else (xaZ.j0 k a0 a2 a3 0 0 (decide (a0 > 6)) a1_0 l1_1)) = some (r1, r2, r3) := h
 clear h;have HC5 := Aside0.mk H;clear H
 go_enter Try.func27, Try.ntmps27
 go_upto_region 1 with (first | ((with_reducible refine xbM (N := 5) rfl ?_); refine xbJ ?hg (N := 5) ?hd (cs := #[.int .i64 a1_0, .slice A1_1 l1_1.length c1_1]) (t := 24) ?hr ?_; (case hd => rfl); (case hg => rfl); (case hr => first | (go_simp; done) | (go_simp; rfl)); intro gb171 hg w6 hbox hb; have n0_ := Aside0.mk (xaP (by repeat (first | (with_reducible first | exact HB.out | apply xaB | apply xaA | apply xaC) | exact HB.out)) hb); have n1_ := Aside0.mk (hbox); have n2_ := Aside0.mk ((by rw [hg]; exact (xaR (by repeat (first | (with_reducible first | exact HB.out | apply xaB | apply xaA | apply xaC) | exact HB.out))) : w.heap.size ≤ gb171)); have n3_ := Aside0.mk ((by rw [hg]; exact (xaR (by repeat (first | (with_reducible first | exact HB.out | apply xaB | apply xaA | apply xaC) | exact HB.out))) : w.heap.size ≤ gb171)); clear HB; have HB := n0_; have BK171 := n1_; have GW171 := n2_; have GE171 := n3_; clear n0_ n1_ n2_ n3_; clear hb hbox hg))
 (try simp only [Act.put, List.setIfInBounds_toArray, List.set_cons_zero, List.set_cons_succ])
 go_cut [19] (fun v19 wc => ∃ (kq : Nat) (x19_4 : Bool), v19 = .bool x19_4 ∧ Aside0 (xaZ.j0 kq a0 a2 a3 0 0 x19_4 a1_0 l1_1 = some (r1, r2, r3)) ∧ Aside0 (kq ≤ k) ∧ Aside0 (wc.heap[gb171]? = some (.cells #[.int .i64 a1_0, (.slice A1_1 l1_1.length c1_1)] 24 (0, 0))) ∧ Aside0 (Below w.heap.size w wc))
 case first =>
  have H := HC5.out;clear HC5
  by_cases c7 : a0 < 1
  ·
   rw [if_pos c7] at H
   have c7b0 : decide (a0 < 1) = true := decide_eq_true c7
   clear c7
   (first | rw [c7b0] | (simp only [i64_w, i32_w]; rw [c7b0]) | skip)
   have H' := Aside0.mk H;clear H
   go_wp2
   go_meet
   case rel => exact ⟨_, (true), (by first | rfl | (simp; done) | (simp [*]; done)), H', ⟨by first | omega | exact Nat.le_refl _⟩, ⟨by (with_reducible repeat (first | refine xaG ?_ _ | refine xaJ ?_ | refine xaH ?_ _)); exact BK171.out⟩, ⟨by repeat (first | (with_reducible first | exact HB.out | apply xaB | apply xaA | apply xaC | refine xaF ?_ GE171.out) | exact HB.out)⟩⟩
  ·
   rw [if_neg c7] at H
   have c7b0 : decide (a0 < 1) = false := decide_eq_false c7
   clear c7
   (first | rw [c7b0] | (simp only [i64_w, i32_w]; rw [c7b0]) | skip)
   have H' := Aside0.mk H;clear H
   go_wp2
   go_meet
   case rel => exact ⟨_, (decide (a0 > 6)), (by first | rfl | (simp; done) | (simp [*]; done)), H', ⟨by first | omega | exact Nat.le_refl _⟩, ⟨by (with_reducible repeat (first | refine xaG ?_ _ | refine xaJ ?_ | refine xaH ?_ _)); exact BK171.out⟩, ⟨by repeat (first | (with_reducible first | exact HB.out | apply xaB | apply xaA | apply xaC | refine xaF ?_ GE171.out) | exact HB.out)⟩⟩
 case rest =>
  clear HC5
  obtain ⟨kq, x19_4, rfl, HA, HJ4, BK171, HB⟩ := hcut
  cases kq with
  | zero => exact absurd HA.out (by simp [xaZ.j0])
  | succ kj4 =>
   have H := HA.out;clear HA
   simp only [xaZ.j0] at H
   by_cases c8 : x19_4 = true
   ·
    subst c8
    have H1 : (some (0, 0, 70)) = some (r1, r2, r3) := by rw [if_pos rfl] at H; exact H
    clear H;have H := H1;clear H1
    simp only [Option.some.injEq, Prod.mk.injEq] at H
    obtain ⟨rfl, rfl, rfl⟩ := H
    go_wp2
    go_ret3
    exact ⟨by first | rfl | (simp [xaL, xaK] <;> rfl) | (simp [*, xaL, xaK] <;> rfl), by repeat (first | (with_reducible first | exact HB.out | apply xaB | apply xaA | apply xaC | refine xaF ?_ GE171.out) | exact HB.out)⟩
   ·
    replace c8 := Bool.eq_false_iff.mpr c8;subst c8
    have H1 : (if a0 = 6 then ((xfM.f a1_0 l1_1).bind fun bt172 => (if bt172.1 = 0 then (xaZ.j1 kj4 a0 a2 a3 0 0 a1_0 l1_1) else (some (0, 0, bt172.1)))) else (xaZ.j1 kj4 a0 a2 a3 0 0 a1_0 l1_1)) = some (r1, r2, r3) := by rw [if_neg (show ¬ (false = true) by decide)] at H; exact H
    clear H;have H := H1;clear H1;have HC9 := Aside0.mk H;clear H
    go_upto_if 21 with (fail)
    go_cut [8, 10] (fun v8 v10 wc => ∃ (kq : Nat) (x8_8 : Int) (x10_8 : Int), v8 = .int .i64 x8_8 ∧ v10 = .int .i64 x10_8 ∧ Aside0 (xaZ.j1 kq a0 a2 a3 x8_8 x10_8 a1_0 l1_1 = some (r1, r2, r3)) ∧ Aside0 (kq ≤ kj4) ∧ Aside0 (wc.heap[gb171]? = some (.cells #[.int .i64 a1_0, (.slice A1_1 l1_1.length c1_1)] 24 (0, 0))) ∧ Aside0 (Below w.heap.size w wc))
    case first =>
     have H := HC9.out;clear HC9
     by_cases c10 : a0 = 6
     ·
      rw [if_pos c10] at H
      have c10b0 : (a0 == 6) = true := beq_iff_eq.mpr c10
      have c10b1 : (a0 != 6) = false := bne_eq_false_iff_eq.mpr c10
      clear c10
      (first | rw [c10b0] | (simp only [i64_w, i32_w]; rw [c10b0]) | skip)
      replace H := Option.bind_eq_some_iff.mp H
      obtain ⟨⟨t172, t173⟩, A110, H⟩ := H
      replace H : (if t172 = 0 then (xaZ.j1 kj4 a0 a2 a3 0 0 a1_0 l1_1) else (some (0, 0, t172))) = some (r1, r2, r3) := H
      have A11 := Aside0.mk A110;clear A110
      by_cases c12 : t172 = 0
      ·
       rw [if_pos c12] at H
       have c12b0 : (t172 == 0) = true := beq_iff_eq.mpr c12
       have c12b1 : (t172 != 0) = false := bne_eq_false_iff_eq.mpr c12
       clear c12;have H' := Aside0.mk H;clear H
       have hcz13_0 : wc.cell? ⟨gb171, 0, none⟩ = some (.int .i64 a1_0) := (xaE BK171.out 0).trans rfl
       have hcz13_1 : wc.cell? ⟨gb171, 1, none⟩ = some (.slice A1_1 l1_1.length c1_1) := (xaE BK171.out 1).trans rfl
       have hfz13_0 := xaD BK171.out 0;have hfz13_1 := xaD BK171.out 1
       go_wp2_with (first | ((with_reducible refine xaQ (f := 44) rfl ?_); refine goesL_ (some 24) rfl rfl Try.func44 (by kernel_rfl) rfl #[.agg #[.int .i64 a1_0, .slice A1_1 l1_1.length c1_1]] rfl (by (try simp only [List.map_toArray, List.map_cons, List.map_nil]); first | done | rfl | (simp only [List.length_drop, List.length_take]; rfl)) ?_; (with_reducible refine (xfM.calls a1_0 _ _ l1_1 t172 t173 _ ?side1 ?side2 A11.out).mono ?_); (case side1 => repeat (first | exact (Kd.xbT HR1_1.out HB.out) | (with_reducible refine Kd.xbF ?_ _) | (with_reducible refine Kd.xbE ?_ _) | (with_reducible refine Kd.C_drew ?_))); (case side2 => exact HC1_1.out); rintro e w14 ⟨rfl, hb⟩; refine ⟨_, rfl, ?_⟩; have n0_ := Aside0.mk (xaY (g := gb171) (o := .cells #[.int .i64 a1_0, .slice A1_1 l1_1.length c1_1] 24 (0, 0)) (by (with_reducible repeat (first | refine xaG ?_ _ | refine xaJ ?_ | refine xaH ?_ _)); exact BK171.out) hb); have n1_ := Aside0.mk (xaP (by repeat (first | (with_reducible first | exact HB.out | apply xaB | apply xaA | apply xaC | refine xaF ?_ GE171.out) | exact HB.out)) hb); clear BK171; clear HB; have BK171 := n0_; have HB := n1_; clear n0_ n1_; (try clear hb); (try clear hb2); (try clear hk); (try clear hi)))
       go_meet
       case rel => exact ⟨_, (0), (0), (by first | rfl | (simp; done) | (simp [*]; done)), (by first | rfl | (simp; done) | (simp [*]; done)), H', ⟨by have := HJ4.out; first | omega | exact Nat.le_refl _⟩, ⟨by (with_reducible repeat (first | refine xaG ?_ _ | refine xaJ ?_ | refine xaH ?_ _)); exact BK171.out⟩, ⟨by repeat (first | (with_reducible first | exact HB.out | apply xaB | apply xaA | apply xaC | refine xaF ?_ GE171.out) | exact HB.out)⟩⟩
      ·
       rw [if_neg c12] at H
       have c12b0 : (t172 == 0) = false := beq_eq_false_iff_ne.mpr c12
       have c12b1 : (t172 != 0) = true := bne_iff_ne.mpr c12
       simp only [Option.some.injEq, Prod.mk.injEq] at H
       obtain ⟨rfl, rfl, rfl⟩ := H
       have hcz15_0 : wc.cell? ⟨gb171, 0, none⟩ = some (.int .i64 a1_0) := (xaE BK171.out 0).trans rfl
       have hcz15_1 : wc.cell? ⟨gb171, 1, none⟩ = some (.slice A1_1 l1_1.length c1_1) := (xaE BK171.out 1).trans rfl
       have hfz15_0 := xaD BK171.out 0;have hfz15_1 := xaD BK171.out 1
       go_wp2_with (first | ((with_reducible refine xaQ (f := 44) rfl ?_); refine goesL_ (some 24) rfl rfl Try.func44 (by kernel_rfl) rfl #[.agg #[.int .i64 a1_0, .slice A1_1 l1_1.length c1_1]] rfl (by (try simp only [List.map_toArray, List.map_cons, List.map_nil]); first | done | rfl | (simp only [List.length_drop, List.length_take]; rfl)) ?_; (with_reducible refine (xfM.calls a1_0 _ _ l1_1 t172 t173 _ ?side1 ?side2 A11.out).mono ?_); (case side1 => repeat (first | exact (Kd.xbT HR1_1.out HB.out) | (with_reducible refine Kd.xbF ?_ _) | (with_reducible refine Kd.xbE ?_ _) | (with_reducible refine Kd.C_drew ?_))); (case side2 => exact HC1_1.out); rintro e w16 ⟨rfl, hb⟩; refine ⟨_, rfl, ?_⟩; have n0_ := Aside0.mk (xaY (g := gb171) (o := .cells #[.int .i64 a1_0, .slice A1_1 l1_1.length c1_1] 24 (0, 0)) (by (with_reducible repeat (first | refine xaG ?_ _ | refine xaJ ?_ | refine xaH ?_ _)); exact BK171.out) hb); have n1_ := Aside0.mk (xaP (by repeat (first | (with_reducible first | exact HB.out | apply xaB | apply xaA | apply xaC | refine xaF ?_ GE171.out) | exact HB.out)) hb); clear BK171; clear HB; have BK171 := n0_; have HB := n1_; clear n0_ n1_; (try clear hb); (try clear hb2); (try clear hk); (try clear hi)))
       go_ret3
       exact ⟨by first | rfl | (simp [xaL, xaK] <;> rfl) | (simp [*, xaL, xaK] <;> rfl), by repeat (first | (with_reducible first | exact HB.out | apply xaB | apply xaA | apply xaC | refine xaF ?_ GE171.out) | exact HB.out)⟩
     ·
      rw [if_neg c10] at H
      have c10b0 : (a0 == 6) = false := beq_eq_false_iff_ne.mpr c10
      have c10b1 : (a0 != 6) = true := bne_iff_ne.mpr c10
      (first | rw [c10b0] | (simp only [i64_w, i32_w]; rw [c10b0]) | skip)
      have H' := Aside0.mk H;clear H
      go_wp2
      go_meet
      case rel => exact ⟨_, (0), (0), (by first | rfl | (simp; done) | (simp [*]; done)), (by first | rfl | (simp; done) | (simp [*]; done)), H', ⟨by have := HJ4.out; first | omega | exact Nat.le_refl _⟩, ⟨by (with_reducible repeat (first | refine xaG ?_ _ | refine xaJ ?_ | refine xaH ?_ _)); exact BK171.out⟩, ⟨by repeat (first | (with_reducible first | exact HB.out | apply xaB | apply xaA | apply xaC | refine xaF ?_ GE171.out) | exact HB.out)⟩⟩
    case rest =>
     clear HC9
     obtain ⟨kq, x8_8, x10_8, rfl, rfl, HA, HJ8, BK171, HB⟩ := hcut
     cases kq with
     | zero => exact absurd HA.out (by simp [xaZ.j1])
     | succ kj8 =>
      have H := HA.out;clear HA
      simp only [xaZ.j1] at H
      have HC17 := Aside0.mk H;clear H
      go_upto_region 7 with (fail)
      go_cut [37] (fun v37 wc => ∃ (kq : Nat) (x37_16 : Bool), v37 = .bool x37_16 ∧ Aside0 (xaZ.j2 kq a0 a2 a3 x8_8 x10_8 x37_16 a1_0 l1_1 = some (r1, r2, r3)) ∧ Aside0 (kq ≤ kj8) ∧ Aside0 (wc.heap[gb171]? = some (.cells #[.int .i64 a1_0, (.slice A1_1 l1_1.length c1_1)] 24 (0, 0))) ∧ Aside0 (Below w.heap.size w wc))
      case first =>
       have H := HC17.out;clear HC17;replace H := Option.bind_eq_some_iff.mp H
       obtain ⟨t174, A180, H⟩ := H
       replace H : (if t174 = true then ((xfD.f a3).bind fun t175 => (xaZ.j2 kj8 a0 a2 a3 x8_8 x10_8 (!t175) a1_0 l1_1)) else (xaZ.j2 kj8 a0 a2 a3 x8_8 x10_8 true a1_0 l1_1)) = some (r1, r2, r3) := H
       have A18 := Aside0.mk A180;clear A180
       by_cases c19 : t174 = true
       ·
        subst c19
        have H1 : ((xfD.f a3).bind fun t175 => (xaZ.j2 kj8 a0 a2 a3 x8_8 x10_8 (!t175) a1_0 l1_1)) = some (r1, r2, r3) := by rw [if_pos rfl] at H; exact H
        clear H;have H := H1;clear H1;replace H := Option.bind_eq_some_iff.mp H
        obtain ⟨t175, A200, H⟩ := H
        replace H : (xaZ.j2 kj8 a0 a2 a3 x8_8 x10_8 (!t175) a1_0 l1_1) = some (r1, r2, r3) := H
        have A20 := Aside0.mk A200;clear A200;have H' := Aside0.mk H;clear H
        go_wp2_with (first | ((with_reducible refine xaQ (f := 61) rfl ?_); refine goesL_ (some 31) rfl rfl Try.func61 (by kernel_rfl) rfl #[.int .i64 a2] rfl (by (try simp only [List.map_toArray, List.map_cons, List.map_nil]); first | done | rfl | (simp only [List.length_drop, List.length_take]; rfl)) ?_; (with_reducible refine (xfD.calls a2 true _ A18.out).mono ?_); rintro e w' ⟨rfl, ⟨nd, rfl⟩⟩; refine ⟨_, rfl, ?_⟩) | (go_at_call 61; (with_reducible refine (xfD.calls a3 t175 _ A20.out).mono ?_); rintro e w' ⟨rfl, ⟨nd, rfl⟩⟩))
        go_meet
        case rel => exact ⟨_, (!t175), (by first | rfl | (simp; done) | (simp [*]; done)), H', ⟨by have := HJ4.out; have := HJ8.out; first | omega | exact Nat.le_refl _⟩, ⟨by (with_reducible repeat (first | refine xaG ?_ _ | refine xaJ ?_ | refine xaH ?_ _)); exact BK171.out⟩, ⟨by repeat (first | (with_reducible first | exact HB.out | apply xaB | apply xaA | apply xaC | refine xaF ?_ GE171.out) | exact HB.out)⟩⟩
       ·
        replace c19 := Bool.eq_false_iff.mpr c19;subst c19
        have H1 : (xaZ.j2 kj8 a0 a2 a3 x8_8 x10_8 true a1_0 l1_1) = some (r1, r2, r3) := by rw [if_neg (show ¬ (false = true) by decide)] at H; exact H
        clear H;have H := H1;clear H1;have H' := Aside0.mk H;clear H
        go_wp2_with (first | ((with_reducible refine xaQ (f := 61) rfl ?_); refine goesL_ (some 31) rfl rfl Try.func61 (by kernel_rfl) rfl #[.int .i64 a2] rfl (by (try simp only [List.map_toArray, List.map_cons, List.map_nil]); first | done | rfl | (simp only [List.length_drop, List.length_take]; rfl)) ?_; (with_reducible refine (xfD.calls a2 false _ A18.out).mono ?_); rintro e w' ⟨rfl, ⟨nd, rfl⟩⟩; refine ⟨_, rfl, ?_⟩))
        go_meet
        case rel => exact ⟨_, (true), (by first | rfl | (simp; done) | (simp [*]; done)), H', ⟨by have := HJ4.out; have := HJ8.out; first | omega | exact Nat.le_refl _⟩, ⟨by (with_reducible repeat (first | refine xaG ?_ _ | refine xaJ ?_ | refine xaH ?_ _)); exact BK171.out⟩, ⟨by repeat (first | (with_reducible first | exact HB.out | apply xaB | apply xaA | apply xaC | refine xaF ?_ GE171.out) | exact HB.out)⟩⟩
      case rest =>
       clear HC17
       obtain ⟨kq, x37_16, rfl, HA, HJ16, BK171, HB⟩ := hcut
       cases kq with
       | zero => exact absurd HA.out (by simp [xaZ.j2])
       | succ kj16 =>
        have H := HA.out;clear HA
        simp only [xaZ.j2] at H
        by_cases c21 : x37_16 = true
        ·
         subst c21
         have H1 : (some (0, 0, 51)) = some (r1, r2, r3) := by rw [if_pos rfl] at H; exact H
         clear H;have H := H1;clear H1
         simp only [Option.some.injEq, Prod.mk.injEq] at H
         obtain ⟨rfl, rfl, rfl⟩ := H
         go_wp2
         go_ret3
         exact ⟨by first | rfl | (simp [xaL, xaK] <;> rfl) | (simp [*, xaL, xaK] <;> rfl), by repeat (first | (with_reducible first | exact HB.out | apply xaB | apply xaA | apply xaC | refine xaF ?_ GE171.out) | exact HB.out)⟩
        ·
         replace c21 := Bool.eq_false_iff.mpr c21;subst c21
         have H1 : (if a3 < a2 then ((xaZ.f kj16 a0 a1_0 l1_1 a3 a2).bind fun bt176 => (some (wrap64 (-bt176.1), bt176.2.1, bt176.2.2))) else (if a0 = 2 then (some (wrap64 (a3 - a2), 365, x10_8)) else (if a0 = 1 then (some (wrap64 (a3 - a2), 360, x10_8)) else (if a0 = 3 then ((xcJ.f kj16 a3).bind fun t183 => ((xcJ.f kj16 a2).bind fun t184 => (some (wrap64 ((wrap64 (366 * (wrap64 ((wrap64 (a3 - a2)) - (wrap64 (t183 - t184)))))) + (wrap64 (365 * (wrap64 (t183 - t184))))), 133590, x10_8)))) else (if a0 = 5 then ((xdU.f kj16 a2 a3 true).bind fun t179 => (some (t179, 360, x10_8))) else (if a0 = 4 then ((xdU.f kj16 a2 a3 false).bind fun t180 => (some (t180, 360, x10_8))) else (if a0 = 6 then ((xfW.f a1_0 l1_1 a2 a3).bind fun bt181 => (some (bt181.1, 252, bt181.2))) else (some (x8_8, 360, x10_8))))))))) = some (r1, r2, r3) := by rw [if_neg (show ¬ (false = true) by decide)] at H; exact H
         clear H;have H := H1;clear H1
         by_cases c22 : a3 < a2
         ·
          rw [if_pos c22] at H
          have c22b0 : decide (a3 < a2) = true := decide_eq_true c22
          clear c22;replace H := Option.bind_eq_some_iff.mp H
          obtain ⟨⟨t176, t177, t178⟩, A230, H⟩ := H
          replace H : (some (wrap64 (-t176), t177, t178)) = some (r1, r2, r3) := H
          have A23 := Aside0.mk A230;clear A230
          simp only [Option.some.injEq, Prod.mk.injEq] at H
          obtain ⟨rfl, rfl, rfl⟩ := H
          have hcz24_0 : wc.cell? ⟨gb171, 0, none⟩ = some (.int .i64 a1_0) := (xaE BK171.out 0).trans rfl
          have hcz24_1 : wc.cell? ⟨gb171, 1, none⟩ = some (.slice A1_1 l1_1.length c1_1) := (xaE BK171.out 1).trans rfl
          have hfz24_0 := xaD BK171.out 0;have hfz24_1 := xaD BK171.out 1
          go_wp2_with (first | ((with_reducible refine xaQ (f := 27) rfl ?_); refine goesL_ (some 46) rfl rfl Try.func27 (by kernel_rfl) rfl #[.int .i64 a0, .agg #[.int .i64 a1_0, .slice A1_1 l1_1.length c1_1], .int .i64 a3, .int .i64 a2] rfl (by (try simp only [List.map_toArray, List.map_cons, List.map_nil]); first | done | rfl | (simp only [List.length_drop, List.length_take]; rfl)) ?_; (with_reducible refine (ih kj16 (by have := HJ4.out; have := HJ8.out; have := HJ16.out; omega) a0 a1_0 _ _ l1_1 a3 a2 t176 t177 t178 _ ?side1 ?side2 A23.out).mono ?_); (case side1 => repeat (first | exact (Kd.xbT HR1_1.out HB.out) | (with_reducible refine Kd.xbF ?_ _) | (with_reducible refine Kd.xbE ?_ _) | (with_reducible refine Kd.C_drew ?_))); (case side2 => exact HC1_1.out); rintro e w25 ⟨rfl, hb⟩; refine ⟨_, rfl, ?_⟩; have n0_ := Aside0.mk (xaY (g := gb171) (o := .cells #[.int .i64 a1_0, .slice A1_1 l1_1.length c1_1] 24 (0, 0)) (by (with_reducible repeat (first | refine xaG ?_ _ | refine xaJ ?_ | refine xaH ?_ _)); exact BK171.out) hb); have n1_ := Aside0.mk (xaP (by repeat (first | (with_reducible first | exact HB.out | apply xaB | apply xaA | apply xaC | refine xaF ?_ GE171.out) | exact HB.out)) hb); clear BK171; clear HB; have BK171 := n0_; have HB := n1_; clear n0_ n1_; (try clear hb); (try clear hb2); (try clear hk); (try clear hi)))
          go_ret3
          exact ⟨by first | rfl | (simp [xaL, xaK] <;> rfl) | (simp [*, xaL, xaK] <;> rfl), by repeat (first | (with_reducible first | exact HB.out | apply xaB | apply xaA | apply xaC | refine xaF ?_ GE171.out) | exact HB.out)⟩
         ·
          rw [if_neg c22] at H
          have c22b0 : decide (a3 < a2) = false := decide_eq_false c22
          clear c22
          by_cases c26 : a0 = 2
          ·
           rw [if_pos c26] at H
           have c26b0 : (a0 == 2) = true := beq_iff_eq.mpr c26
           have c26b1 : (a0 != 2) = false := bne_eq_false_iff_eq.mpr c26
           clear c26
           simp only [Option.some.injEq, Prod.mk.injEq] at H
           obtain ⟨rfl, rfl, rfl⟩ := H
           go_wp2
           go_ret3
           exact ⟨by first | rfl | (simp [xaL, xaK] <;> rfl) | (simp [*, xaL, xaK] <;> rfl), by repeat (first | (with_reducible first | exact HB.out | apply xaB | apply xaA | apply xaC | refine xaF ?_ GE171.out) | exact HB.out)⟩
          ·
           rw [if_neg c26] at H
           have c26b0 : (a0 == 2) = false := beq_eq_false_iff_ne.mpr c26
           have c26b1 : (a0 != 2) = true := bne_iff_ne.mpr c26
           by_cases c27 : a0 = 1
           ·
            rw [if_pos c27] at H
            have c27b0 : (a0 == 1) = true := beq_iff_eq.mpr c27
            have c27b1 : (a0 != 1) = false := bne_eq_false_iff_eq.mpr c27
            clear c27
            simp only [Option.some.injEq, Prod.mk.injEq] at H
            obtain ⟨rfl, rfl, rfl⟩ := H
            go_wp2
            go_ret3
            exact ⟨by first | rfl | (simp [xaL, xaK] <;> rfl) | (simp [*, xaL, xaK] <;> rfl), by repeat (first | (with_reducible first | exact HB.out | apply xaB | apply xaA | apply xaC | refine xaF ?_ GE171.out) | exact HB.out)⟩
           ·
            rw [if_neg c27] at H
            have c27b0 : (a0 == 1) = false := beq_eq_false_iff_ne.mpr c27
            have c27b1 : (a0 != 1) = true := bne_iff_ne.mpr c27
            by_cases c28 : a0 = 3
            ·
             rw [if_pos c28] at H
             have c28b0 : (a0 == 3) = true := beq_iff_eq.mpr c28
             have c28b1 : (a0 != 3) = false := bne_eq_false_iff_eq.mpr c28
             clear c28;replace H := Option.bind_eq_some_iff.mp H
             obtain ⟨t183, A290, H⟩ := H
             replace H : ((xcJ.f kj16 a2).bind fun t184 => (some (wrap64 ((wrap64 (366 * (wrap64 ((wrap64 (a3 - a2)) - (wrap64 (t183 - t184)))))) + (wrap64 (365 * (wrap64 (t183 - t184))))), 133590, x10_8))) = some (r1, r2, r3) := H
             have A29 := Aside0.mk A290;clear A290;replace H := Option.bind_eq_some_iff.mp H
             obtain ⟨t184, A300, H⟩ := H
             replace H : (some (wrap64 ((wrap64 (366 * (wrap64 ((wrap64 (a3 - a2)) - (wrap64 (t183 - t184)))))) + (wrap64 (365 * (wrap64 (t183 - t184))))), 133590, x10_8)) = some (r1, r2, r3) := H
             have A30 := Aside0.mk A300;clear A300
             simp only [Option.some.injEq, Prod.mk.injEq] at H
             obtain ⟨rfl, rfl, rfl⟩ := H
             go_wp2_with (first | ((with_reducible refine xaQ (f := 62) rfl ?_); refine goesL_ (some 71) rfl rfl Try.func62 (by kernel_rfl) rfl #[.int .i64 a3] rfl (by (try simp only [List.map_toArray, List.map_cons, List.map_nil]); first | done | rfl | (simp only [List.length_drop, List.length_take]; rfl)) ?_; (with_reducible refine (xcJ.calls kj16 a3 t183 _ A29.out).mono ?_); rintro e w' ⟨rfl, ⟨nd, rfl⟩⟩; refine ⟨_, rfl, ?_⟩) | ((with_reducible refine xaQ (f := 62) rfl ?_); refine goesL_ (some 73) rfl rfl Try.func62 (by kernel_rfl) rfl #[.int .i64 a2] rfl (by (try simp only [List.map_toArray, List.map_cons, List.map_nil]); first | done | rfl | (simp only [List.length_drop, List.length_take]; rfl)) ?_; (with_reducible refine (xcJ.calls kj16 a2 t184 _ A30.out).mono ?_); rintro e w' ⟨rfl, ⟨nd, rfl⟩⟩; refine ⟨_, rfl, ?_⟩))
             go_ret3
             exact ⟨by first | rfl | (simp [xaL, xaK] <;> rfl) | (simp [*, xaL, xaK] <;> rfl), by repeat (first | (with_reducible first | exact HB.out | apply xaB | apply xaA | apply xaC | refine xaF ?_ GE171.out) | exact HB.out)⟩
            ·
             rw [if_neg c28] at H
             have c28b0 : (a0 == 3) = false := beq_eq_false_iff_ne.mpr c28
             have c28b1 : (a0 != 3) = true := bne_iff_ne.mpr c28
             by_cases c31 : a0 = 5
             ·
              rw [if_pos c31] at H
              have c31b0 : (a0 == 5) = true := beq_iff_eq.mpr c31
              have c31b1 : (a0 != 5) = false := bne_eq_false_iff_eq.mpr c31
              clear c31;replace H := Option.bind_eq_some_iff.mp H
              obtain ⟨t179, A320, H⟩ := H
              replace H : (some (t179, 360, x10_8)) = some (r1, r2, r3) := H
              have A32 := Aside0.mk A320;clear A320
              simp only [Option.some.injEq, Prod.mk.injEq] at H
              obtain ⟨rfl, rfl, rfl⟩ := H
              go_wp2_with (first | ((with_reducible refine xaQ (f := 63) rfl ?_); refine goesL_ (some 86) rfl rfl Try.func63 (by kernel_rfl) rfl #[.int .i64 a2, .int .i64 a3, .bool true] rfl (by (try simp only [List.map_toArray, List.map_cons, List.map_nil]); first | done | rfl | (simp only [List.length_drop, List.length_take]; rfl)) ?_; (with_reducible refine (xdU.calls kj16 a2 a3 true t179 _ A32.out).mono ?_); rintro e w33 ⟨rfl, hb⟩; refine ⟨_, rfl, ?_⟩; have n0_ := Aside0.mk (xaY (g := gb171) (o := .cells #[.int .i64 a1_0, .slice A1_1 l1_1.length c1_1] 24 (0, 0)) (by (with_reducible repeat (first | refine xaG ?_ _ | refine xaJ ?_ | refine xaH ?_ _)); exact BK171.out) hb); have n1_ := Aside0.mk (xaP (by repeat (first | (with_reducible first | exact HB.out | apply xaB | apply xaA | apply xaC | refine xaF ?_ GE171.out) | exact HB.out)) hb); clear BK171; clear HB; have BK171 := n0_; have HB := n1_; clear n0_ n1_; (try clear hb); (try clear hb2); (try clear hk); (try clear hi)))
              go_ret3
              exact ⟨by first | rfl | (simp [xaL, xaK] <;> rfl) | (simp [*, xaL, xaK] <;> rfl), by repeat (first | (with_reducible first | exact HB.out | apply xaB | apply xaA | apply xaC | refine xaF ?_ GE171.out) | exact HB.out)⟩
             ·
              rw [if_neg c31] at H
              have c31b0 : (a0 == 5) = false := beq_eq_false_iff_ne.mpr c31
              have c31b1 : (a0 != 5) = true := bne_iff_ne.mpr c31
              by_cases c34 : a0 = 4
              ·
               rw [if_pos c34] at H
               have c34b0 : (a0 == 4) = true := beq_iff_eq.mpr c34
               have c34b1 : (a0 != 4) = false := bne_eq_false_iff_eq.mpr c34
               clear c34;replace H := Option.bind_eq_some_iff.mp H
               obtain ⟨t180, A350, H⟩ := H
               replace H : (some (t180, 360, x10_8)) = some (r1, r2, r3) := H
               have A35 := Aside0.mk A350;clear A350
               simp only [Option.some.injEq, Prod.mk.injEq] at H
               obtain ⟨rfl, rfl, rfl⟩ := H
               go_wp2_with (first | ((with_reducible refine xaQ (f := 63) rfl ?_); refine goesL_ (some 89) rfl rfl Try.func63 (by kernel_rfl) rfl #[.int .i64 a2, .int .i64 a3, .bool false] rfl (by (try simp only [List.map_toArray, List.map_cons, List.map_nil]); first | done | rfl | (simp only [List.length_drop, List.length_take]; rfl)) ?_; (with_reducible refine (xdU.calls kj16 a2 a3 false t180 _ A35.out).mono ?_); rintro e w36 ⟨rfl, hb⟩; refine ⟨_, rfl, ?_⟩; have n0_ := Aside0.mk (xaY (g := gb171) (o := .cells #[.int .i64 a1_0, .slice A1_1 l1_1.length c1_1] 24 (0, 0)) (by (with_reducible repeat (first | refine xaG ?_ _ | refine xaJ ?_ | refine xaH ?_ _)); exact BK171.out) hb); have n1_ := Aside0.mk (xaP (by repeat (first | (with_reducible first | exact HB.out | apply xaB | apply xaA | apply xaC | refine xaF ?_ GE171.out) | exact HB.out)) hb); clear BK171; clear HB; have BK171 := n0_; have HB := n1_; clear n0_ n1_; (try clear hb); (try clear hb2); (try clear hk); (try clear hi)))
               go_ret3
               exact ⟨by first | rfl | (simp [xaL, xaK] <;> rfl) | (simp [*, xaL, xaK] <;> rfl), by repeat (first | (with_reducible first | exact HB.out | apply xaB | apply xaA | apply xaC | refine xaF ?_ GE171.out) | exact HB.out)⟩
              ·
               rw [if_neg c34] at H
               have c34b0 : (a0 == 4) = false := beq_eq_false_iff_ne.mpr c34
               have c34b1 : (a0 != 4) = true := bne_iff_ne.mpr c34
               by_cases c37 : a0 = 6
               ·
                rw [if_pos c37] at H
                have c37b0 : (a0 == 6) = true := beq_iff_eq.mpr c37
                have c37b1 : (a0 != 6) = false := bne_eq_false_iff_eq.mpr c37
                clear c37;replace H := Option.bind_eq_some_iff.mp H
                obtain ⟨⟨t181, t182⟩, A380, H⟩ := H
                replace H : (some (t181, 252, t182)) = some (r1, r2, r3) := H
                have A38 := Aside0.mk A380;clear A380
                simp only [Option.some.injEq, Prod.mk.injEq] at H
                obtain ⟨rfl, rfl, rfl⟩ := H
                have hcz39_0 : wc.cell? ⟨gb171, 0, none⟩ = some (.int .i64 a1_0) := (xaE BK171.out 0).trans rfl
                have hcz39_1 : wc.cell? ⟨gb171, 1, none⟩ = some (.slice A1_1 l1_1.length c1_1) := (xaE BK171.out 1).trans rfl
                have hfz39_0 := xaD BK171.out 0;have hfz39_1 := xaD BK171.out 1
                go_wp2_with (first | ((with_reducible refine xaQ (f := 42) rfl ?_); refine goesL_ (some 94) rfl rfl Try.func42 (by kernel_rfl) rfl #[.agg #[.int .i64 a1_0, .slice A1_1 l1_1.length c1_1], .int .i64 a2, .int .i64 a3] rfl (by (try simp only [List.map_toArray, List.map_cons, List.map_nil]); first | done | rfl | (simp only [List.length_drop, List.length_take]; rfl)) ?_; (with_reducible refine (xfW.calls a1_0 _ _ l1_1 a2 a3 t181 t182 _ ?side1 ?side2 A38.out).mono ?_); (case side1 => repeat (first | exact (Kd.xbT HR1_1.out HB.out) | (with_reducible refine Kd.xbF ?_ _) | (with_reducible refine Kd.xbE ?_ _) | (with_reducible refine Kd.C_drew ?_))); (case side2 => exact HC1_1.out); rintro e w40 ⟨rfl, hb⟩; refine ⟨_, rfl, ?_⟩; have n0_ := Aside0.mk (xaY (g := gb171) (o := .cells #[.int .i64 a1_0, .slice A1_1 l1_1.length c1_1] 24 (0, 0)) (by (with_reducible repeat (first | refine xaG ?_ _ | refine xaJ ?_ | refine xaH ?_ _)); exact BK171.out) hb); have n1_ := Aside0.mk (xaP (by repeat (first | (with_reducible first | exact HB.out | apply xaB | apply xaA | apply xaC | refine xaF ?_ GE171.out) | exact HB.out)) hb); clear BK171; clear HB; have BK171 := n0_; have HB := n1_; clear n0_ n1_; (try clear hb); (try clear hb2); (try clear hk); (try clear hi)))
                go_ret3
                exact ⟨by first | rfl | (simp [xaL, xaK] <;> rfl) | (simp [*, xaL, xaK] <;> rfl), by repeat (first | (with_reducible first | exact HB.out | apply xaB | apply xaA | apply xaC | refine xaF ?_ GE171.out) | exact HB.out)⟩
               ·
                rw [if_neg c37] at H
                have c37b0 : (a0 == 6) = false := beq_eq_false_iff_ne.mpr c37
                have c37b1 : (a0 != 6) = true := bne_iff_ne.mpr c37
                simp only [Option.some.injEq, Prod.mk.injEq] at H
                obtain ⟨rfl, rfl, rfl⟩ := H
                go_wp2
                go_ret3
                exact ⟨by first | rfl | (simp [xaL, xaK] <;> rfl) | (simp [*, xaL, xaK] <;> rfl), by repeat (first | (with_reducible first | exact HB.out | apply xaB | apply xaA | apply xaC | refine xaF ?_ GE171.out) | exact HB.out)⟩
end Go.Proofs.Ytoncignjcgjhhaa.Q
