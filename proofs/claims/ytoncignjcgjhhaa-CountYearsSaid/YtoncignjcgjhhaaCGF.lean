/- Contracts and facts of functions of the program (calendar, dates and their documents), joined in one text by a program of this session. No condition but what each theorem states. -/
import Derived.Test.YtoncignjcgjhhaaCGA
import Derived.Test.YtoncignjcgjhhaaCGE
set_option linter.unusedVariables false
set_option linter.unusedSimpArgs false
namespace Go.Proofs.Ytoncignjcgjhhaa.Q
open Go.RowKit Go.Proofs.YtoncignjcgjhhaaW.PrintWords Go.Proofs.YtoncignjcgjhhaaW.PrintLast Go.Proofs.YtoncignjcgjhhaaW.PrintMore
attribute [local go_sem] xcC xcB xcR xcQ xbX xbW xcF xcE   -- for this text's walks alone
def xcM.f (a0_0 : Int) (l0_1 : List (S63)) (a1 : Int) : Option (Bool) := if 0 ≤ (Int.tmod (wrap64 ((Int.tmod a1 7) + 7)) 7) then (some ((Go.bits .and .i64 (shr .i64 a0_0 (Int.tmod (wrap64 ((Int.tmod a1 7) + 7)) 7)) 1) == 1)) else (none)
set_option maxHeartbeats 8000000 in
set_option maxRecDepth 100000 in
theorem xcM.calls (a0_0 : Int) (A0_1 : Option Addr) (c0_1 : Nat) (l0_1 : List (S63)) (a1 : Int) (r : Bool) (w : World) (hr0_1 : Kd.C k63 w A0_1 l0_1.length l0_1) (hc0_1 : l0_1.length ≤ c0_1) (h : xcM.f a0_0 l0_1 a1 = some r) :
  Calls Try.prog 108 #[.agg #[.int .i64 a0_0, .slice A0_1 l0_1.length c0_1], .int .i64 a1] w fun e w' => e = .returned (.bool r) ∧ Below w.heap.size w w' := by
 have hu24 := Try.underlying24;have HR0_1 := Aside0.mk hr0_1;have HC0_1 := Aside0.mk hc0_1;clear hr0_1 hc0_1
 have HB := Aside0.mk (Below.refl w.heap.size w)
 have H : (if 0 ≤ (Int.tmod (wrap64 ((Int.tmod a1 7) + 7)) 7) then (some ((Go.bits .and .i64 (shr .i64 a0_0 (Int.tmod (wrap64 ((Int.tmod a1 7) + 7)) 7)) 1) == 1)) else (none)) = some r := h
 clear h
 obtain ⟨ji3, hji3⟩ : ∃ j_ : Int, (Int.tmod (wrap64 ((Int.tmod a1 7) + 7)) 7) = j_ := ⟨_, rfl⟩
 replace H : (if 0 ≤ (ji3) then (some ((Go.bits .and .i64 (shr .i64 a0_0 (ji3)) 1) == 1)) else (none)) = some r := by first | (rw [hji3] at H; exact H) | (simp only [hji3] at H ⊢; exact H)
 by_cases c4 : 0 ≤ (ji3)
 ·
  rw [if_pos c4] at H
  have c4b0 := eq_true c4
  have c4b1 : decide (0 ≤ (ji3)) = true := decide_eq_true c4
  clear c4
  obtain ⟨ji5, hji5⟩ : ∃ j_ : Int, (shr .i64 a0_0 (ji3)) = j_ := ⟨_, rfl⟩
  replace H : (some ((Go.bits .and .i64 (ji5) 1) == 1)) = some r := by first | (rw [hji5] at H; exact H) | (simp only [hji5] at H ⊢; exact H)
  have hji5_ : (a0_0 / 2 ^ min (ji3).toNat 64) = ji5 := hji5
  have hji5z : (ji3) ≤ 64 → (a0_0 / 2 ^ (ji3).toNat) = ji5 := xhR hji5
  obtain rfl := Option.some.inj H
  go_enter Try.func108, Try.ntmps108
  go_wp2_with (first | ((with_reducible refine xbM (N := 2) rfl ?_); refine xbJ ?hg (N := 2) ?hd (cs := #[.int .i64 a0_0, .slice A0_1 l0_1.length c0_1]) (t := 24) ?hr ?_; (case hd => rfl); (case hg => rfl); (case hr => first | (go_simp; done) | (go_simp; rfl)); intro gb203 hg w6 hbox hb; have n0_ := Aside0.mk (xaP (by repeat (first | (with_reducible first | exact HB.out | apply xaB | apply xaA | apply xaC) | exact HB.out)) hb); have n1_ := Aside0.mk (hbox); have n2_ := Aside0.mk ((by rw [hg]; exact (xaR (by repeat (first | (with_reducible first | exact HB.out | apply xaB | apply xaA | apply xaC) | exact HB.out))) : w.heap.size ≤ gb203)); have n3_ := Aside0.mk ((by rw [hg]; exact (xaR (by repeat (first | (with_reducible first | exact HB.out | apply xaB | apply xaA | apply xaC) | exact HB.out))) : w.heap.size ≤ gb203)); clear HB; have HB := n0_; have BK203 := n1_; have GW203 := n2_; have GE203 := n3_; clear n0_ n1_ n2_ n3_; clear hb hbox hg; have hcz7_0 : w6.cell? ⟨gb203, 0, none⟩ = some (.int .i64 a0_0) := (xaE BK203.out 0).trans rfl; have hcz7_1 : w6.cell? ⟨gb203, 1, none⟩ = some (.slice A0_1 l0_1.length c0_1) := (xaE BK203.out 1).trans rfl; have hfz7_0 := xaD BK203.out 0; have hfz7_1 := xaD BK203.out 1))
  go_ret
  exact ⟨by first | rfl | (simp [xaL, xaK] <;> rfl) | (simp only [← hji3, ← hji5]; first | rfl | (simp [xaL, xaK] <;> rfl)) | (simp [*, xaL, xaK] <;> rfl), by repeat (first | (with_reducible first | exact HB.out | apply xaB | apply xaA | apply xaC | refine xaF ?_ GE203.out) | exact HB.out)⟩
 ·
  rw [if_neg c4] at H
  exact absurd H (by simp)
mutual
def xaX.j0 : Nat → Int → Int → Bool → Int → List (S63) → Option (Int)
  | 0, _, _, _, _, _ => none
  | k + 1, x1, x2, x16, x205000, x205001 => if x16 = true then (some x1) else (xaX.l0 k x1 x2 x1 x205000 x205001)
def xaX.l0 : Nat → Int → Int → Int → Int → List (S63) → Option (Int)
  | 0, _, _, _, _, _ => none
  | k + 1, x1, x2, x7, x205000, x205001 => (xcM.f x205000 x205001 x7).bind fun t206 => (if t206 = true then (xaX.l0 k x1 x2 (wrap64 (x7 + 1)) x205000 x205001) else (xaX.l1 k x1 x2 x7 x1 x205000 x205001))
def xaX.l1 : Nat → Int → Int → Int → Int → Int → List (S63) → Option (Int)
  | 0, _, _, _, _, _, _ => none
  | k + 1, x1, x2, x7, x8, x205000, x205001 => (xcM.f x205000 x205001 x8).bind fun t207 => (if t207 = true then (xaX.l1 k x1 x2 x7 (wrap64 (x8 - 1)) x205000 x205001) else (if x2 = 2 then (if (wrap64 (x1 - x8)) < (wrap64 (x7 - x1)) then (some x8) else (some x7)) else (some x7)))
end
def xaX.f (k : Nat) (a0_0 : Int) (l0_1 : List (S63)) (a1 : Int) (a2 : Int) : Option (Int) := if a2 = 0 then (xaX.j0 k a1 a2 true a0_0 l0_1) else ((xcM.f a0_0 l0_1 a1).bind fun t205 => (xaX.j0 k a1 a2 (!t205) a0_0 l0_1))
set_option maxHeartbeats 8000000 in
set_option maxRecDepth 100000 in
theorem xaX.calls (k : Nat) (a0_0 : Int) (A0_1 : Option Addr) (c0_1 : Nat) (l0_1 : List (S63)) (a1 : Int) (a2 : Int) (r : Int) (w : World) (hr0_1 : Kd.C k63 w A0_1 l0_1.length l0_1) (hc0_1 : l0_1.length ≤ c0_1) (h : xaX.f k a0_0 l0_1 a1 a2 = some r) :
  Calls Try.prog 135 #[.agg #[.int .i64 a0_0, .slice A0_1 l0_1.length c0_1], .int .i64 a1, .int .i64 a2] w fun e w' => e = .returned (.int .i64 r) ∧ Below w.heap.size w w' := by
 have hu24 := Try.underlying24;have HR0_1 := Aside0.mk hr0_1;have HC0_1 := Aside0.mk hc0_1;clear hr0_1 hc0_1
 have HB := Aside0.mk (Below.refl w.heap.size w)
 have H : (if a2 = 0 then (xaX.j0 k a1 a2 true a0_0 l0_1) else ((xcM.f a0_0 l0_1 a1).bind fun t205 => (xaX.j0 k a1 a2 (!t205) a0_0 l0_1))) = some r := h
 clear h;have HC4 := Aside0.mk H;clear H
 go_enter Try.func135, Try.ntmps135
 go_upto_region 1 with (first | ((with_reducible refine xbM (N := 3) rfl ?_); refine xbJ ?hg (N := 3) ?hd (cs := #[.int .i64 a0_0, .slice A0_1 l0_1.length c0_1]) (t := 24) ?hr ?_; (case hd => rfl); (case hg => rfl); (case hr => first | (go_simp; done) | (go_simp; rfl)); intro gb204 hg w5 hbox hb; have n0_ := Aside0.mk (xaP (by repeat (first | (with_reducible first | exact HB.out | apply xaB | apply xaA | apply xaC) | exact HB.out)) hb); have n1_ := Aside0.mk (hbox); have n2_ := Aside0.mk ((by rw [hg]; exact (xaR (by repeat (first | (with_reducible first | exact HB.out | apply xaB | apply xaA | apply xaC) | exact HB.out))) : w.heap.size ≤ gb204)); have n3_ := Aside0.mk ((by rw [hg]; exact (xaR (by repeat (first | (with_reducible first | exact HB.out | apply xaB | apply xaA | apply xaC) | exact HB.out))) : w.heap.size ≤ gb204)); clear HB; have HB := n0_; have BK204 := n1_; have GW204 := n2_; have GE204 := n3_; clear n0_ n1_ n2_ n3_; clear hb hbox hg))
 (try simp only [Act.put, List.setIfInBounds_toArray, List.set_cons_zero, List.set_cons_succ])
 go_cut [16] (fun v16 wc => ∃ (kq : Nat) (x16_3 : Bool), v16 = .bool x16_3 ∧ Aside0 (xaX.j0 kq a1 a2 x16_3 a0_0 l0_1 = some r) ∧ Aside0 (kq ≤ k) ∧ Aside0 (wc.heap[gb204]? = some (.cells #[.int .i64 a0_0, (.slice A0_1 l0_1.length c0_1)] 24 (0, 0))) ∧ Aside0 (Below w.heap.size w wc))
 case first =>
  have H := HC4.out;clear HC4
  by_cases c6 : a2 = 0
  ·
   rw [if_pos c6] at H
   have c6b0 : (a2 == 0) = true := beq_iff_eq.mpr c6
   have c6b1 : (a2 != 0) = false := bne_eq_false_iff_eq.mpr c6
   clear c6
   (first | rw [c6b0] | (simp only [i64_w, i32_w]; rw [c6b0]) | skip)
   have H' := Aside0.mk H;clear H
   go_wp2
   go_meet
   case rel => exact ⟨_, (true), (by first | rfl | (simp; done) | (simp [*]; done)), H', ⟨by first | omega | exact Nat.le_refl _⟩, ⟨by (with_reducible repeat (first | refine xaG ?_ _ | refine xaJ ?_ | refine xaH ?_ _)); exact BK204.out⟩, ⟨by repeat (first | (with_reducible first | exact HB.out | apply xaB | apply xaA | apply xaC | refine xaF ?_ GE204.out) | exact HB.out)⟩⟩
  ·
   rw [if_neg c6] at H
   have c6b0 : (a2 == 0) = false := beq_eq_false_iff_ne.mpr c6
   have c6b1 : (a2 != 0) = true := bne_iff_ne.mpr c6
   (first | rw [c6b0] | (simp only [i64_w, i32_w]; rw [c6b0]) | skip)
   replace H := Option.bind_eq_some_iff.mp H
   obtain ⟨t205, A70, H⟩ := H
   replace H : (xaX.j0 k a1 a2 (!t205) a0_0 l0_1) = some r := H
   have A7 := Aside0.mk A70;clear A70;have H' := Aside0.mk H;clear H
   have hcz8_0 : w5.cell? ⟨gb204, 0, none⟩ = some (.int .i64 a0_0) := (xaE BK204.out 0).trans rfl
   have hcz8_1 : w5.cell? ⟨gb204, 1, none⟩ = some (.slice A0_1 l0_1.length c0_1) := (xaE BK204.out 1).trans rfl
   have hfz8_0 := xaD BK204.out 0;have hfz8_1 := xaD BK204.out 1
   go_wp2_with (first | (go_at_call 108; (with_reducible refine (xcM.calls a0_0 _ _ l0_1 a1 t205 _ ?side1 ?side2 A7.out).mono ?_); (case side1 => repeat (first | exact (Kd.xbT HR0_1.out HB.out) | (with_reducible refine Kd.xbF ?_ _) | (with_reducible refine Kd.xbE ?_ _) | (with_reducible refine Kd.C_drew ?_))); (case side2 => exact HC0_1.out); rintro e w9 ⟨rfl, hb⟩; have n0_ := Aside0.mk (xaY (g := gb204) (o := .cells #[.int .i64 a0_0, .slice A0_1 l0_1.length c0_1] 24 (0, 0)) (by (with_reducible repeat (first | refine xaG ?_ _ | refine xaJ ?_ | refine xaH ?_ _)); exact BK204.out) hb); have n1_ := Aside0.mk (xaP (by repeat (first | (with_reducible first | exact HB.out | apply xaB | apply xaA | apply xaC | refine xaF ?_ GE204.out) | exact HB.out)) hb); clear BK204; clear HB; have BK204 := n0_; have HB := n1_; clear n0_ n1_; (try clear hb); (try clear hb2); (try clear hk); (try clear hi)))
   go_meet
   case rel => exact ⟨_, (!t205), (by first | rfl | (simp; done) | (simp [*]; done)), H', ⟨by first | omega | exact Nat.le_refl _⟩, ⟨by (with_reducible repeat (first | refine xaG ?_ _ | refine xaJ ?_ | refine xaH ?_ _)); exact BK204.out⟩, ⟨by repeat (first | (with_reducible first | exact HB.out | apply xaB | apply xaA | apply xaC | refine xaF ?_ GE204.out) | exact HB.out)⟩⟩
 case rest =>
  clear HC4
  obtain ⟨kq, x16_3, rfl, HA, HJ3, BK204, HB⟩ := hcut
  cases kq with
  | zero => exact absurd HA.out (by simp [xaX.j0])
  | succ kj3 =>
   have H := HA.out;clear HA
   simp only [xaX.j0] at H
   by_cases c10 : x16_3 = true
   ·
    subst c10
    have H1 : (some a1) = some r := by rw [if_pos rfl] at H; exact H
    clear H;have H := H1;clear H1
    obtain rfl := Option.some.inj H
    go_wp2
    go_ret
    exact ⟨by first | rfl | (simp [xaL, xaK] <;> rfl) | (simp [*, xaL, xaK] <;> rfl), by repeat (first | (with_reducible first | exact HB.out | apply xaB | apply xaA | apply xaC | refine xaF ?_ GE204.out) | exact HB.out)⟩
   ·
    replace c10 := Bool.eq_false_iff.mpr c10;subst c10
    have H1 : (xaX.l0 kj3 a1 a2 a1 a0_0 l0_1) = some r := by rw [if_neg (show ¬ (false = true) by decide)] at H; exact H
    clear H;have H := H1;clear H1;have H' := Aside0.mk H;clear H
    go_wp2
    go_loopg [7] kj3 (fun kq v7 w' => ∃ (x7_2 : Int), v7 = .int .i64 x7_2 ∧ Aside0 (xaX.l0 kq a1 a2 x7_2 a0_0 l0_1 = some r) ∧ Aside0 (kq ≤ kj3) ∧ Aside0 (w'.heap[gb204]? = some (.cells #[.int .i64 a0_0, (.slice A0_1 l0_1.length c0_1)] 24 (0, 0))) ∧ Aside0 (Below w.heap.size w w'))
    case atStart => exact ⟨(a1), (by first | rfl | (simp; done) | (simp [*]; done)), H', ⟨Nat.le_refl _⟩, ⟨by (with_reducible repeat (first | refine xaG ?_ _ | refine xaJ ?_ | refine xaH ?_ _)); exact BK204.out⟩, ⟨by repeat (first | (with_reducible first | exact HB.out | apply xaB | apply xaA | apply xaC | refine xaF ?_ GE204.out) | exact HB.out)⟩⟩
    case round =>
     clear H'
     obtain ⟨x7_2, rfl, HA, HK2, BK204, HB⟩ := hrel
     cases gk with
     | zero => exact absurd HA.out (by simp [xaX.l0])
     | succ k2 =>
      have H := HA.out;clear HA
      simp only [xaX.l0] at H
      replace H := Option.bind_eq_some_iff.mp H
      obtain ⟨t206, A110, H⟩ := H
      replace H : (if t206 = true then (xaX.l0 k2 a1 a2 (wrap64 (x7_2 + 1)) a0_0 l0_1) else (xaX.l1 k2 a1 a2 x7_2 a1 a0_0 l0_1)) = some r := H
      have A11 := Aside0.mk A110;clear A110
      by_cases c12 : t206 = true
      ·
       subst c12
       have H1 : (xaX.l0 k2 a1 a2 (wrap64 (x7_2 + 1)) a0_0 l0_1) = some r := by rw [if_pos rfl] at H; exact H
       clear H;have H := H1;clear H1;have H' := Aside0.mk H;clear H
       have hcz13_0 : wr.cell? ⟨gb204, 0, none⟩ = some (.int .i64 a0_0) := (xaE BK204.out 0).trans rfl
       have hcz13_1 : wr.cell? ⟨gb204, 1, none⟩ = some (.slice A0_1 l0_1.length c0_1) := (xaE BK204.out 1).trans rfl
       have hfz13_0 := xaD BK204.out 0;have hfz13_1 := xaD BK204.out 1
       go_wp2_with (first | ((with_reducible refine xaQ (f := 108) rfl ?_); refine goesL_ (some 21) rfl rfl Try.func108 (by kernel_rfl) rfl #[.agg #[.int .i64 a0_0, .slice A0_1 l0_1.length c0_1], .int .i64 x7_2] rfl (by (try simp only [List.map_toArray, List.map_cons, List.map_nil]); first | done | rfl | (simp only [List.length_drop, List.length_take]; rfl)) ?_; (with_reducible refine (xcM.calls a0_0 _ _ l0_1 x7_2 true _ ?side1 ?side2 A11.out).mono ?_); (case side1 => repeat (first | exact (Kd.xbT HR0_1.out HB.out) | (with_reducible refine Kd.xbF ?_ _) | (with_reducible refine Kd.xbE ?_ _) | (with_reducible refine Kd.C_drew ?_))); (case side2 => exact HC0_1.out); rintro e w14 ⟨rfl, hb⟩; refine ⟨_, rfl, ?_⟩; have n0_ := Aside0.mk (xaY (g := gb204) (o := .cells #[.int .i64 a0_0, .slice A0_1 l0_1.length c0_1] 24 (0, 0)) (by (with_reducible repeat (first | refine xaG ?_ _ | refine xaJ ?_ | refine xaH ?_ _)); exact BK204.out) hb); have n1_ := Aside0.mk (xaP (by repeat (first | (with_reducible first | exact HB.out | apply xaB | apply xaA | apply xaC | refine xaF ?_ GE204.out) | exact HB.out)) hb); clear BK204; clear HB; have BK204 := n0_; have HB := n1_; clear n0_ n1_; (try clear hb); (try clear hb2); (try clear hk); (try clear hi)))
       go_roundg k2
       case measure => have := HJ3.out; have := HK2.out; omega
       case rel => exact ⟨(wrap64 (x7_2 + 1)), (by first | rfl | (simp; done) | (simp [*]; done)), H', ⟨by have := HJ3.out; have := HK2.out; omega⟩, ⟨by (with_reducible repeat (first | refine xaG ?_ _ | refine xaJ ?_ | refine xaH ?_ _)); exact BK204.out⟩, ⟨by repeat (first | (with_reducible first | exact HB.out | apply xaB | apply xaA | apply xaC | refine xaF ?_ GE204.out) | exact HB.out)⟩⟩
      ·
       replace c12 := Bool.eq_false_iff.mpr c12;subst c12
       have H1 : (xaX.l1 k2 a1 a2 x7_2 a1 a0_0 l0_1) = some r := by rw [if_neg (show ¬ (false = true) by decide)] at H; exact H
       clear H;have H := H1;clear H1;have H' := Aside0.mk H;clear H
       have hcz15_0 : wr.cell? ⟨gb204, 0, none⟩ = some (.int .i64 a0_0) := (xaE BK204.out 0).trans rfl
       have hcz15_1 : wr.cell? ⟨gb204, 1, none⟩ = some (.slice A0_1 l0_1.length c0_1) := (xaE BK204.out 1).trans rfl
       have hfz15_0 := xaD BK204.out 0;have hfz15_1 := xaD BK204.out 1
       go_wp2_with (first | ((with_reducible refine xaQ (f := 108) rfl ?_); refine goesL_ (some 21) rfl rfl Try.func108 (by kernel_rfl) rfl #[.agg #[.int .i64 a0_0, .slice A0_1 l0_1.length c0_1], .int .i64 x7_2] rfl (by (try simp only [List.map_toArray, List.map_cons, List.map_nil]); first | done | rfl | (simp only [List.length_drop, List.length_take]; rfl)) ?_; (with_reducible refine (xcM.calls a0_0 _ _ l0_1 x7_2 false _ ?side1 ?side2 A11.out).mono ?_); (case side1 => repeat (first | exact (Kd.xbT HR0_1.out HB.out) | (with_reducible refine Kd.xbF ?_ _) | (with_reducible refine Kd.xbE ?_ _) | (with_reducible refine Kd.C_drew ?_))); (case side2 => exact HC0_1.out); rintro e w16 ⟨rfl, hb⟩; refine ⟨_, rfl, ?_⟩; have n0_ := Aside0.mk (xaY (g := gb204) (o := .cells #[.int .i64 a0_0, .slice A0_1 l0_1.length c0_1] 24 (0, 0)) (by (with_reducible repeat (first | refine xaG ?_ _ | refine xaJ ?_ | refine xaH ?_ _)); exact BK204.out) hb); have n1_ := Aside0.mk (xaP (by repeat (first | (with_reducible first | exact HB.out | apply xaB | apply xaA | apply xaC | refine xaF ?_ GE204.out) | exact HB.out)) hb); clear BK204; clear HB; have BK204 := n0_; have HB := n1_; clear n0_ n1_; (try clear hb); (try clear hb2); (try clear hk); (try clear hi)))
       go_loopg [8] k2 (fun kq v8 w' => ∃ (x8_3 : Int), v8 = .int .i64 x8_3 ∧ Aside0 (xaX.l1 kq a1 a2 x7_2 x8_3 a0_0 l0_1 = some r) ∧ Aside0 (kq ≤ k2) ∧ Aside0 (w'.heap[gb204]? = some (.cells #[.int .i64 a0_0, (.slice A0_1 l0_1.length c0_1)] 24 (0, 0))) ∧ Aside0 (Below w.heap.size w w'))
       case atStart => exact ⟨(a1), (by first | rfl | (simp; done) | (simp [*]; done)), H', ⟨Nat.le_refl _⟩, ⟨by (with_reducible repeat (first | refine xaG ?_ _ | refine xaJ ?_ | refine xaH ?_ _)); exact BK204.out⟩, ⟨by repeat (first | (with_reducible first | exact HB.out | apply xaB | apply xaA | apply xaC | refine xaF ?_ GE204.out) | exact HB.out)⟩⟩
       case round =>
        clear H'
        obtain ⟨x8_3, rfl, HA, HK3, BK204, HB⟩ := hrel
        cases gk with
        | zero => exact absurd HA.out (by simp [xaX.l1])
        | succ k3 =>
         have H := HA.out;clear HA
         simp only [xaX.l1] at H
         replace H := Option.bind_eq_some_iff.mp H
         obtain ⟨t207, A170, H⟩ := H
         replace H : (if t207 = true then (xaX.l1 k3 a1 a2 x7_2 (wrap64 (x8_3 - 1)) a0_0 l0_1) else (if a2 = 2 then (if (wrap64 (a1 - x8_3)) < (wrap64 (x7_2 - a1)) then (some x8_3) else (some x7_2)) else (some x7_2))) = some r := H
         have A17 := Aside0.mk A170;clear A170
         by_cases c18 : t207 = true
         ·
          subst c18
          have H1 : (xaX.l1 k3 a1 a2 x7_2 (wrap64 (x8_3 - 1)) a0_0 l0_1) = some r := by rw [if_pos rfl] at H; exact H
          clear H;have H := H1;clear H1;have H' := Aside0.mk H;clear H
          have hcz19_0 : wr.cell? ⟨gb204, 0, none⟩ = some (.int .i64 a0_0) := (xaE BK204.out 0).trans rfl
          have hcz19_1 : wr.cell? ⟨gb204, 1, none⟩ = some (.slice A0_1 l0_1.length c0_1) := (xaE BK204.out 1).trans rfl
          have hfz19_0 := xaD BK204.out 0;have hfz19_1 := xaD BK204.out 1
          go_wp2_with (first | ((with_reducible refine xaQ (f := 108) rfl ?_); refine goesL_ (some 27) rfl rfl Try.func108 (by kernel_rfl) rfl #[.agg #[.int .i64 a0_0, .slice A0_1 l0_1.length c0_1], .int .i64 x8_3] rfl (by (try simp only [List.map_toArray, List.map_cons, List.map_nil]); first | done | rfl | (simp only [List.length_drop, List.length_take]; rfl)) ?_; (with_reducible refine (xcM.calls a0_0 _ _ l0_1 x8_3 true _ ?side1 ?side2 A17.out).mono ?_); (case side1 => repeat (first | exact (Kd.xbT HR0_1.out HB.out) | (with_reducible refine Kd.xbF ?_ _) | (with_reducible refine Kd.xbE ?_ _) | (with_reducible refine Kd.C_drew ?_))); (case side2 => exact HC0_1.out); rintro e w20 ⟨rfl, hb⟩; refine ⟨_, rfl, ?_⟩; have n0_ := Aside0.mk (xaY (g := gb204) (o := .cells #[.int .i64 a0_0, .slice A0_1 l0_1.length c0_1] 24 (0, 0)) (by (with_reducible repeat (first | refine xaG ?_ _ | refine xaJ ?_ | refine xaH ?_ _)); exact BK204.out) hb); have n1_ := Aside0.mk (xaP (by repeat (first | (with_reducible first | exact HB.out | apply xaB | apply xaA | apply xaC | refine xaF ?_ GE204.out) | exact HB.out)) hb); clear BK204; clear HB; have BK204 := n0_; have HB := n1_; clear n0_ n1_; (try clear hb); (try clear hb2); (try clear hk); (try clear hi)))
          go_roundg k3
          case measure => have := HJ3.out; have := HK2.out; have := HK3.out; omega
          case rel => exact ⟨(wrap64 (x8_3 - 1)), (by first | rfl | (simp; done) | (simp [*]; done)), H', ⟨by have := HJ3.out; have := HK2.out; have := HK3.out; omega⟩, ⟨by (with_reducible repeat (first | refine xaG ?_ _ | refine xaJ ?_ | refine xaH ?_ _)); exact BK204.out⟩, ⟨by repeat (first | (with_reducible first | exact HB.out | apply xaB | apply xaA | apply xaC | refine xaF ?_ GE204.out) | exact HB.out)⟩⟩
         ·
          replace c18 := Bool.eq_false_iff.mpr c18;subst c18
          have H1 : (if a2 = 2 then (if (wrap64 (a1 - x8_3)) < (wrap64 (x7_2 - a1)) then (some x8_3) else (some x7_2)) else (some x7_2)) = some r := by rw [if_neg (show ¬ (false = true) by decide)] at H; exact H
          clear H;have H := H1;clear H1
          by_cases c21 : a2 = 2
          ·
           rw [if_pos c21] at H
           have c21b0 : (a2 == 2) = true := beq_iff_eq.mpr c21
           have c21b1 : (a2 != 2) = false := bne_eq_false_iff_eq.mpr c21
           clear c21
           by_cases c22 : (wrap64 (a1 - x8_3)) < (wrap64 (x7_2 - a1))
           ·
            rw [if_pos c22] at H
            have c22b0 : decide ((wrap64 (a1 - x8_3)) < (wrap64 (x7_2 - a1))) = true := decide_eq_true c22
            clear c22
            obtain rfl := Option.some.inj H
            have hcz23_0 : wr.cell? ⟨gb204, 0, none⟩ = some (.int .i64 a0_0) := (xaE BK204.out 0).trans rfl
            have hcz23_1 : wr.cell? ⟨gb204, 1, none⟩ = some (.slice A0_1 l0_1.length c0_1) := (xaE BK204.out 1).trans rfl
            have hfz23_0 := xaD BK204.out 0;have hfz23_1 := xaD BK204.out 1
            go_wp2_with (first | ((with_reducible refine xaQ (f := 108) rfl ?_); refine goesL_ (some 27) rfl rfl Try.func108 (by kernel_rfl) rfl #[.agg #[.int .i64 a0_0, .slice A0_1 l0_1.length c0_1], .int .i64 x8_3] rfl (by (try simp only [List.map_toArray, List.map_cons, List.map_nil]); first | done | rfl | (simp only [List.length_drop, List.length_take]; rfl)) ?_; (with_reducible refine (xcM.calls a0_0 _ _ l0_1 x8_3 false _ ?side1 ?side2 A17.out).mono ?_); (case side1 => repeat (first | exact (Kd.xbT HR0_1.out HB.out) | (with_reducible refine Kd.xbF ?_ _) | (with_reducible refine Kd.xbE ?_ _) | (with_reducible refine Kd.C_drew ?_))); (case side2 => exact HC0_1.out); rintro e w24 ⟨rfl, hb⟩; refine ⟨_, rfl, ?_⟩; have n0_ := Aside0.mk (xaY (g := gb204) (o := .cells #[.int .i64 a0_0, .slice A0_1 l0_1.length c0_1] 24 (0, 0)) (by (with_reducible repeat (first | refine xaG ?_ _ | refine xaJ ?_ | refine xaH ?_ _)); exact BK204.out) hb); have n1_ := Aside0.mk (xaP (by repeat (first | (with_reducible first | exact HB.out | apply xaB | apply xaA | apply xaC | refine xaF ?_ GE204.out) | exact HB.out)) hb); clear BK204; clear HB; have BK204 := n0_; have HB := n1_; clear n0_ n1_; (try clear hb); (try clear hb2); (try clear hk); (try clear hi)))
            go_ret
            exact ⟨by first | rfl | (simp [xaL, xaK] <;> rfl) | (simp [*, xaL, xaK] <;> rfl), by repeat (first | (with_reducible first | exact HB.out | apply xaB | apply xaA | apply xaC | refine xaF ?_ GE204.out) | exact HB.out)⟩
           ·
            rw [if_neg c22] at H
            have c22b0 : decide ((wrap64 (a1 - x8_3)) < (wrap64 (x7_2 - a1))) = false := decide_eq_false c22
            clear c22
            obtain rfl := Option.some.inj H
            have hcz25_0 : wr.cell? ⟨gb204, 0, none⟩ = some (.int .i64 a0_0) := (xaE BK204.out 0).trans rfl
            have hcz25_1 : wr.cell? ⟨gb204, 1, none⟩ = some (.slice A0_1 l0_1.length c0_1) := (xaE BK204.out 1).trans rfl
            have hfz25_0 := xaD BK204.out 0;have hfz25_1 := xaD BK204.out 1
            go_wp2_with (first | ((with_reducible refine xaQ (f := 108) rfl ?_); refine goesL_ (some 27) rfl rfl Try.func108 (by kernel_rfl) rfl #[.agg #[.int .i64 a0_0, .slice A0_1 l0_1.length c0_1], .int .i64 x8_3] rfl (by (try simp only [List.map_toArray, List.map_cons, List.map_nil]); first | done | rfl | (simp only [List.length_drop, List.length_take]; rfl)) ?_; (with_reducible refine (xcM.calls a0_0 _ _ l0_1 x8_3 false _ ?side1 ?side2 A17.out).mono ?_); (case side1 => repeat (first | exact (Kd.xbT HR0_1.out HB.out) | (with_reducible refine Kd.xbF ?_ _) | (with_reducible refine Kd.xbE ?_ _) | (with_reducible refine Kd.C_drew ?_))); (case side2 => exact HC0_1.out); rintro e w26 ⟨rfl, hb⟩; refine ⟨_, rfl, ?_⟩; have n0_ := Aside0.mk (xaY (g := gb204) (o := .cells #[.int .i64 a0_0, .slice A0_1 l0_1.length c0_1] 24 (0, 0)) (by (with_reducible repeat (first | refine xaG ?_ _ | refine xaJ ?_ | refine xaH ?_ _)); exact BK204.out) hb); have n1_ := Aside0.mk (xaP (by repeat (first | (with_reducible first | exact HB.out | apply xaB | apply xaA | apply xaC | refine xaF ?_ GE204.out) | exact HB.out)) hb); clear BK204; clear HB; have BK204 := n0_; have HB := n1_; clear n0_ n1_; (try clear hb); (try clear hb2); (try clear hk); (try clear hi)))
            go_ret
            exact ⟨by first | rfl | (simp [xaL, xaK] <;> rfl) | (simp [*, xaL, xaK] <;> rfl), by repeat (first | (with_reducible first | exact HB.out | apply xaB | apply xaA | apply xaC | refine xaF ?_ GE204.out) | exact HB.out)⟩
          ·
           rw [if_neg c21] at H
           have c21b0 : (a2 == 2) = false := beq_eq_false_iff_ne.mpr c21
           have c21b1 : (a2 != 2) = true := bne_iff_ne.mpr c21
           obtain rfl := Option.some.inj H
           have hcz27_0 : wr.cell? ⟨gb204, 0, none⟩ = some (.int .i64 a0_0) := (xaE BK204.out 0).trans rfl
           have hcz27_1 : wr.cell? ⟨gb204, 1, none⟩ = some (.slice A0_1 l0_1.length c0_1) := (xaE BK204.out 1).trans rfl
           have hfz27_0 := xaD BK204.out 0;have hfz27_1 := xaD BK204.out 1
           go_wp2_with (first | ((with_reducible refine xaQ (f := 108) rfl ?_); refine goesL_ (some 27) rfl rfl Try.func108 (by kernel_rfl) rfl #[.agg #[.int .i64 a0_0, .slice A0_1 l0_1.length c0_1], .int .i64 x8_3] rfl (by (try simp only [List.map_toArray, List.map_cons, List.map_nil]); first | done | rfl | (simp only [List.length_drop, List.length_take]; rfl)) ?_; (with_reducible refine (xcM.calls a0_0 _ _ l0_1 x8_3 false _ ?side1 ?side2 A17.out).mono ?_); (case side1 => repeat (first | exact (Kd.xbT HR0_1.out HB.out) | (with_reducible refine Kd.xbF ?_ _) | (with_reducible refine Kd.xbE ?_ _) | (with_reducible refine Kd.C_drew ?_))); (case side2 => exact HC0_1.out); rintro e w28 ⟨rfl, hb⟩; refine ⟨_, rfl, ?_⟩; have n0_ := Aside0.mk (xaY (g := gb204) (o := .cells #[.int .i64 a0_0, .slice A0_1 l0_1.length c0_1] 24 (0, 0)) (by (with_reducible repeat (first | refine xaG ?_ _ | refine xaJ ?_ | refine xaH ?_ _)); exact BK204.out) hb); have n1_ := Aside0.mk (xaP (by repeat (first | (with_reducible first | exact HB.out | apply xaB | apply xaA | apply xaC | refine xaF ?_ GE204.out) | exact HB.out)) hb); clear BK204; clear HB; have BK204 := n0_; have HB := n1_; clear n0_ n1_; (try clear hb); (try clear hb2); (try clear hk); (try clear hi)))
           go_ret
           exact ⟨by first | rfl | (simp [xaL, xaK] <;> rfl) | (simp [*, xaL, xaK] <;> rfl), by repeat (first | (with_reducible first | exact HB.out | apply xaB | apply xaA | apply xaC | refine xaF ?_ GE204.out) | exact HB.out)⟩
end Go.Proofs.Ytoncignjcgjhhaa.Q
namespace Go.Proofs.Ytoncignjcgjhhaa.Q
open Go.RowKit Go.Proofs.YtoncignjcgjhhaaW.PrintWords Go.Proofs.YtoncignjcgjhhaaW.PrintLast Go.Proofs.YtoncignjcgjhhaaW.PrintMore
attribute [local go_sem] xcC xcB xcR xcQ xbX xbW xcF xcE   -- for this text's walks alone
def xcA.j0 : Nat → Int → Bool → Int → List (S63) → Int → Int → Int → Int → Int → Int → Int → Int → Int → Option (Int × Bool)
  | 0, _, _, _, _, _, _, _, _, _, _, _, _, _ => none
  | k + 1, x2, x22, x209000, x209001, x210000, x210001, x210002, x210003, x210004, x210005, x210006, x210007, x210008 => if x22 = true then (some (0, false)) else (if x210000 = 1 then ((xbG.f k x2 x210001 x210002).bind fun bt210 => (if bt210.2 = 0 then ((xaX.f k x209000 x209001 bt210.1 x210008).bind fun t212 => (some (t212, true))) else (some (0, false)))) else (if x210000 = 2 then ((xcK.f k x2 x210001 x210004 x210003).bind fun t213 => ((xaX.f k x209000 x209001 t213 x210008).bind fun t214 => (some (t214, true)))) else (if x210000 = 3 then ((xdV.f x2).bind fun bt215 => ((xaX.f k x209000 x209001 (wrap64 (bt215.1 + x210005)) x210008).bind fun t217 => (some (t217, true)))) else ((xaX.f k x209000 x209001 0 x210008).bind fun t218 => (some (t218, true))))))
def xcA.f (k : Nat) (a0_0 : Int) (l0_1 : List (S63)) (a1_0 : Int) (a1_1 : Int) (a1_2 : Int) (a1_3 : Int) (a1_4 : Int) (a1_5 : Int) (a1_6 : Int) (a1_7 : Int) (a1_8 : Int) (a2 : Int) : Option (Int × Bool) := if a2 < a1_6 then (xcA.j0 k a2 true a0_0 l0_1 a1_0 a1_1 a1_2 a1_3 a1_4 a1_5 a1_6 a1_7 a1_8) else (xcA.j0 k a2 (decide (a2 > a1_7)) a0_0 l0_1 a1_0 a1_1 a1_2 a1_3 a1_4 a1_5 a1_6 a1_7 a1_8)
set_option maxHeartbeats 8000000 in
set_option maxRecDepth 100000 in
theorem xcA.calls (k : Nat) (a0_0 : Int) (A0_1 : Option Addr) (c0_1 : Nat) (l0_1 : List (S63)) (a1_0 : Int) (a1_1 : Int) (a1_2 : Int) (a1_3 : Int) (a1_4 : Int) (a1_5 : Int) (a1_6 : Int) (a1_7 : Int) (a1_8 : Int) (a2 : Int) (r1 : Int) (r2 : Bool) (w : World) (hr0_1 : Kd.C k63 w A0_1 l0_1.length l0_1) (hc0_1 : l0_1.length ≤ c0_1) (h : xcA.f k a0_0 l0_1 a1_0 a1_1 a1_2 a1_3 a1_4 a1_5 a1_6 a1_7 a1_8 a2 = some (r1, r2)) :
  Calls Try.prog 110 #[.agg #[.int .i64 a0_0, .slice A0_1 l0_1.length c0_1], .agg #[.int .i64 a1_0, .int .i64 a1_1, .int .i64 a1_2, .int .i64 a1_3, .int .i64 a1_4, .int .i64 a1_5, .int .i64 a1_6, .int .i64 a1_7, .int .i64 a1_8], .int .i64 a2] w fun e w' => e = .returned (.tuple #[.int .i64 r1, .bool r2]) ∧ Below w.heap.size w w' := by
 have hu24 := Try.underlying24;have hu63 := Try.underlying63;have HR0_1 := Aside0.mk hr0_1;have HC0_1 := Aside0.mk hc0_1;clear hr0_1 hc0_1
 have HB := Aside0.mk (Below.refl w.heap.size w)
 have H : (if a2 < a1_6 then (xcA.j0 k a2 true a0_0 l0_1 a1_0 a1_1 a1_2 a1_3 a1_4 a1_5 a1_6 a1_7 a1_8) else (xcA.j0 k a2 (decide (a2 > a1_7)) a0_0 l0_1 a1_0 a1_1 a1_2 a1_3 a1_4 a1_5 a1_6 a1_7 a1_8)) = some (r1, r2) := h
 clear h;have HC4 := Aside0.mk H;clear H
 go_enter Try.func110, Try.ntmps110
 go_upto_region 1 with (first | ((with_reducible refine xbM (N := 3) rfl ?_); refine xbJ ?hg (N := 3) ?hd (cs := #[.int .i64 a0_0, .slice A0_1 l0_1.length c0_1]) (t := 24) ?hr ?_; (case hd => rfl); (case hg => rfl); (case hr => first | (go_simp; done) | (go_simp; rfl)); intro gb208 hg w5 hbox hb; have n0_ := Aside0.mk (xaP (by repeat (first | (with_reducible first | exact HB.out | apply xaB | apply xaA | apply xaC) | exact HB.out)) hb); have n1_ := Aside0.mk (hbox); have n2_ := Aside0.mk ((by rw [hg]; exact (xaR (by repeat (first | (with_reducible first | exact HB.out | apply xaB | apply xaA | apply xaC) | exact HB.out))) : w.heap.size ≤ gb208)); have n3_ := Aside0.mk ((by rw [hg]; exact (xaR (by repeat (first | (with_reducible first | exact HB.out | apply xaB | apply xaA | apply xaC) | exact HB.out))) : w.heap.size ≤ gb208)); clear HB; have HB := n0_; have BK208 := n1_; have GW208 := n2_; have GE208 := n3_; clear n0_ n1_ n2_ n3_; clear hb hbox hg) | ((with_reducible refine xbM (N := 4) rfl ?_); refine xbJ ?hg (N := 4) ?hd (cs := #[.int .i64 a1_0, .int .i64 a1_1, .int .i64 a1_2, .int .i64 a1_3, .int .i64 a1_4, .int .i64 a1_5, .int .i64 a1_6, .int .i64 a1_7, .int .i64 a1_8]) (t := 63) ?hr ?_; (case hd => rfl); (case hg => rfl); (case hr => first | (go_simp; done) | (go_simp; rfl)); intro gb209 hg w6 hbox hb; have n0_ := Aside0.mk (xaY (g := gb208) (o := .cells #[.int .i64 a0_0, .slice A0_1 l0_1.length c0_1] 24 (0, 0)) (by (with_reducible repeat (first | refine xaG ?_ _ | refine xaJ ?_ | refine xaH ?_ _)); exact BK208.out) hb); have n1_ := Aside0.mk (xaP (by repeat (first | (with_reducible first | exact HB.out | apply xaB | apply xaA | apply xaC | refine xaF ?_ GE208.out) | exact HB.out)) hb); have n2_ := Aside0.mk (hbox); have n3_ := Aside0.mk ((by rw [hg]; exact (xaR (by repeat (first | (with_reducible first | exact HB.out | apply xaB | apply xaA | apply xaC | refine xaF ?_ GE208.out) | exact HB.out))) : w.heap.size ≤ gb209)); have n4_ := Aside0.mk ((by rw [hg]; exact (xaR (by repeat (first | (with_reducible first | exact HB.out | apply xaB | apply xaA | apply xaC | refine xaF ?_ GE208.out) | exact HB.out))) : w.heap.size ≤ gb209)); have n5_ := Aside0.mk ((by rw [hg]; exact Nat.ne_of_lt (blk_lt (g := gb208) (o := .cells #[.int .i64 a0_0, .slice A0_1 l0_1.length c0_1] 24 (0, 0)) (by (with_reducible repeat (first | refine xaG ?_ _ | refine xaJ ?_ | refine xaH ?_ _)); exact BK208.out)) : gb208 ≠ gb209)); have n6_ := Aside0.mk ((by rw [hg]; exact Nat.ne_of_gt (blk_lt (g := gb208) (o := .cells #[.int .i64 a0_0, .slice A0_1 l0_1.length c0_1] 24 (0, 0)) (by (with_reducible repeat (first | refine xaG ?_ _ | refine xaJ ?_ | refine xaH ?_ _)); exact BK208.out)) : gb209 ≠ gb208)); clear BK208; clear HB; have BK208 := n0_; have HB := n1_; have BK209 := n2_; have GW209 := n3_; have GE209 := n4_; have NB208_209 := n5_; have NB209_208 := n6_; clear n0_ n1_ n2_ n3_ n4_ n5_ n6_; clear hb hbox hg))
 (try simp only [Act.put, List.setIfInBounds_toArray, List.set_cons_zero, List.set_cons_succ])
 go_cut [22] (fun v22 wc => ∃ (kq : Nat) (x22_3 : Bool), v22 = .bool x22_3 ∧ Aside0 (xcA.j0 kq a2 x22_3 a0_0 l0_1 a1_0 a1_1 a1_2 a1_3 a1_4 a1_5 a1_6 a1_7 a1_8 = some (r1, r2)) ∧ Aside0 (kq ≤ k) ∧ Aside0 (wc.heap[gb208]? = some (.cells #[.int .i64 a0_0, (.slice A0_1 l0_1.length c0_1)] 24 (0, 0))) ∧ Aside0 (wc.heap[gb209]? = some (.cells #[.int .i64 a1_0, .int .i64 a1_1, .int .i64 a1_2, .int .i64 a1_3, .int .i64 a1_4, .int .i64 a1_5, .int .i64 a1_6, .int .i64 a1_7, .int .i64 a1_8] 63 (0, 0))) ∧ Aside0 (Below w.heap.size w wc))
 case first =>
  have H := HC4.out;clear HC4
  by_cases c7 : a2 < a1_6
  ·
   rw [if_pos c7] at H
   have c7b0 : decide (a2 < a1_6) = true := decide_eq_true c7
   clear c7
   (first | rw [c7b0] | (simp only [i64_w, i32_w]; rw [c7b0]) | skip)
   have H' := Aside0.mk H;clear H;have hnb8 := NB209_208.out;have hnc8 := NB208_209.out
   have hcz9_0 : w6.cell? ⟨gb209, 0, none⟩ = some (.int .i64 a1_0) := (xaE BK209.out 0).trans rfl
   have hcz9_1 : w6.cell? ⟨gb209, 1, none⟩ = some (.int .i64 a1_1) := (xaE BK209.out 1).trans rfl
   have hcz9_2 : w6.cell? ⟨gb209, 2, none⟩ = some (.int .i64 a1_2) := (xaE BK209.out 2).trans rfl
   have hcz9_3 : w6.cell? ⟨gb209, 3, none⟩ = some (.int .i64 a1_3) := (xaE BK209.out 3).trans rfl
   have hcz9_4 : w6.cell? ⟨gb209, 4, none⟩ = some (.int .i64 a1_4) := (xaE BK209.out 4).trans rfl
   have hcz9_5 : w6.cell? ⟨gb209, 5, none⟩ = some (.int .i64 a1_5) := (xaE BK209.out 5).trans rfl
   have hcz9_6 : w6.cell? ⟨gb209, 6, none⟩ = some (.int .i64 a1_6) := (xaE BK209.out 6).trans rfl
   have hcz9_7 : w6.cell? ⟨gb209, 7, none⟩ = some (.int .i64 a1_7) := (xaE BK209.out 7).trans rfl
   have hcz9_8 : w6.cell? ⟨gb209, 8, none⟩ = some (.int .i64 a1_8) := (xaE BK209.out 8).trans rfl
   have hfz9_0 := xaD BK209.out 0;have hfz9_1 := xaD BK209.out 1;have hfz9_2 := xaD BK209.out 2;have hfz9_3 := xaD BK209.out 3;have hfz9_4 := xaD BK209.out 4;have hfz9_5 := xaD BK209.out 5;have hfz9_6 := xaD BK209.out 6;have hfz9_7 := xaD BK209.out 7;have hfz9_8 := xaD BK209.out 8
   go_wp2
   go_meet
   case rel => exact ⟨_, (true), (by first | rfl | (simp; done) | (simp [*]; done)), H', ⟨by first | omega | exact Nat.le_refl _⟩, ⟨by (with_reducible repeat (first | refine xaG ?_ _ | refine xaJ ?_ | refine xaH ?_ _)); exact BK208.out⟩, ⟨by (with_reducible repeat (first | refine xaG ?_ _ | refine xaJ ?_ | refine xaH ?_ _)); exact BK209.out⟩, ⟨by repeat (first | (with_reducible first | exact HB.out | apply xaB | apply xaA | apply xaC | refine xaF ?_ GE208.out | refine xaF ?_ GE209.out) | exact HB.out)⟩⟩
  ·
   rw [if_neg c7] at H
   have c7b0 : decide (a2 < a1_6) = false := decide_eq_false c7
   clear c7
   (first | rw [c7b0] | (simp only [i64_w, i32_w]; rw [c7b0]) | skip)
   have H' := Aside0.mk H;clear H;have hnb10 := NB209_208.out;have hnc10 := NB208_209.out
   have hcz11_0 : w6.cell? ⟨gb209, 0, none⟩ = some (.int .i64 a1_0) := (xaE BK209.out 0).trans rfl
   have hcz11_1 : w6.cell? ⟨gb209, 1, none⟩ = some (.int .i64 a1_1) := (xaE BK209.out 1).trans rfl
   have hcz11_2 : w6.cell? ⟨gb209, 2, none⟩ = some (.int .i64 a1_2) := (xaE BK209.out 2).trans rfl
   have hcz11_3 : w6.cell? ⟨gb209, 3, none⟩ = some (.int .i64 a1_3) := (xaE BK209.out 3).trans rfl
   have hcz11_4 : w6.cell? ⟨gb209, 4, none⟩ = some (.int .i64 a1_4) := (xaE BK209.out 4).trans rfl
   have hcz11_5 : w6.cell? ⟨gb209, 5, none⟩ = some (.int .i64 a1_5) := (xaE BK209.out 5).trans rfl
   have hcz11_6 : w6.cell? ⟨gb209, 6, none⟩ = some (.int .i64 a1_6) := (xaE BK209.out 6).trans rfl
   have hcz11_7 : w6.cell? ⟨gb209, 7, none⟩ = some (.int .i64 a1_7) := (xaE BK209.out 7).trans rfl
   have hcz11_8 : w6.cell? ⟨gb209, 8, none⟩ = some (.int .i64 a1_8) := (xaE BK209.out 8).trans rfl
   have hfz11_0 := xaD BK209.out 0;have hfz11_1 := xaD BK209.out 1;have hfz11_2 := xaD BK209.out 2;have hfz11_3 := xaD BK209.out 3;have hfz11_4 := xaD BK209.out 4;have hfz11_5 := xaD BK209.out 5;have hfz11_6 := xaD BK209.out 6;have hfz11_7 := xaD BK209.out 7;have hfz11_8 := xaD BK209.out 8
   go_wp2
   go_meet
   case rel => exact ⟨_, (decide (a2 > a1_7)), (by first | rfl | (simp; done) | (simp [*]; done)), H', ⟨by first | omega | exact Nat.le_refl _⟩, ⟨by (with_reducible repeat (first | refine xaG ?_ _ | refine xaJ ?_ | refine xaH ?_ _)); exact BK208.out⟩, ⟨by (with_reducible repeat (first | refine xaG ?_ _ | refine xaJ ?_ | refine xaH ?_ _)); exact BK209.out⟩, ⟨by repeat (first | (with_reducible first | exact HB.out | apply xaB | apply xaA | apply xaC | refine xaF ?_ GE208.out | refine xaF ?_ GE209.out) | exact HB.out)⟩⟩
 case rest =>
  clear HC4
  obtain ⟨kq, x22_3, rfl, HA, HJ3, BK208, BK209, HB⟩ := hcut
  cases kq with
  | zero => exact absurd HA.out (by simp [xcA.j0])
  | succ kj3 =>
   have H := HA.out;clear HA
   simp only [xcA.j0] at H
   by_cases c12 : x22_3 = true
   ·
    subst c12
    have H1 : (some (0, false)) = some (r1, r2) := by rw [if_pos rfl] at H; exact H
    clear H;have H := H1;clear H1
    simp only [Option.some.injEq, Prod.mk.injEq] at H
    obtain ⟨rfl, rfl⟩ := H
    go_wp2
    go_ret2
    exact ⟨by first | rfl | (simp [xaL, xaK] <;> rfl) | (simp [*, xaL, xaK] <;> rfl), by repeat (first | (with_reducible first | exact HB.out | apply xaB | apply xaA | apply xaC | refine xaF ?_ GE208.out | refine xaF ?_ GE209.out) | exact HB.out)⟩
   ·
    replace c12 := Bool.eq_false_iff.mpr c12;subst c12
    have H1 : (if a1_0 = 1 then ((xbG.f kj3 a2 a1_1 a1_2).bind fun bt210 => (if bt210.2 = 0 then ((xaX.f kj3 a0_0 l0_1 bt210.1 a1_8).bind fun t212 => (some (t212, true))) else (some (0, false)))) else (if a1_0 = 2 then ((xcK.f kj3 a2 a1_1 a1_4 a1_3).bind fun t213 => ((xaX.f kj3 a0_0 l0_1 t213 a1_8).bind fun t214 => (some (t214, true)))) else (if a1_0 = 3 then ((xdV.f a2).bind fun bt215 => ((xaX.f kj3 a0_0 l0_1 (wrap64 (bt215.1 + a1_5)) a1_8).bind fun t217 => (some (t217, true)))) else ((xaX.f kj3 a0_0 l0_1 0 a1_8).bind fun t218 => (some (t218, true)))))) = some (r1, r2) := by rw [if_neg (show ¬ (false = true) by decide)] at H; exact H
    clear H;have H := H1;clear H1
    by_cases c13 : a1_0 = 1
    ·
     rw [if_pos c13] at H
     have c13b0 : (a1_0 == 1) = true := beq_iff_eq.mpr c13
     have c13b1 : (a1_0 != 1) = false := bne_eq_false_iff_eq.mpr c13
     clear c13;replace H := Option.bind_eq_some_iff.mp H
     obtain ⟨⟨t210, t211⟩, A140, H⟩ := H
     replace H : (if t211 = 0 then ((xaX.f kj3 a0_0 l0_1 t210 a1_8).bind fun t212 => (some (t212, true))) else (some (0, false))) = some (r1, r2) := H
     have A14 := Aside0.mk A140;clear A140
     by_cases c15 : t211 = 0
     ·
      rw [if_pos c15] at H
      have c15b0 : (t211 == 0) = true := beq_iff_eq.mpr c15
      have c15b1 : (t211 != 0) = false := bne_eq_false_iff_eq.mpr c15
      clear c15;replace H := Option.bind_eq_some_iff.mp H
      obtain ⟨t212, A160, H⟩ := H
      replace H : (some (t212, true)) = some (r1, r2) := H
      have A16 := Aside0.mk A160;clear A160
      simp only [Option.some.injEq, Prod.mk.injEq] at H
      obtain ⟨rfl, rfl⟩ := H
      have hnb17 := NB209_208.out;have hnc17 := NB208_209.out
      have hcz18_0 : wc.cell? ⟨gb209, 0, none⟩ = some (.int .i64 a1_0) := (xaE BK209.out 0).trans rfl
      have hcz18_1 : wc.cell? ⟨gb209, 1, none⟩ = some (.int .i64 a1_1) := (xaE BK209.out 1).trans rfl
      have hcz18_2 : wc.cell? ⟨gb209, 2, none⟩ = some (.int .i64 a1_2) := (xaE BK209.out 2).trans rfl
      have hcz18_3 : wc.cell? ⟨gb209, 3, none⟩ = some (.int .i64 a1_3) := (xaE BK209.out 3).trans rfl
      have hcz18_4 : wc.cell? ⟨gb209, 4, none⟩ = some (.int .i64 a1_4) := (xaE BK209.out 4).trans rfl
      have hcz18_5 : wc.cell? ⟨gb209, 5, none⟩ = some (.int .i64 a1_5) := (xaE BK209.out 5).trans rfl
      have hcz18_6 : wc.cell? ⟨gb209, 6, none⟩ = some (.int .i64 a1_6) := (xaE BK209.out 6).trans rfl
      have hcz18_7 : wc.cell? ⟨gb209, 7, none⟩ = some (.int .i64 a1_7) := (xaE BK209.out 7).trans rfl
      have hcz18_8 : wc.cell? ⟨gb209, 8, none⟩ = some (.int .i64 a1_8) := (xaE BK209.out 8).trans rfl
      have hfz18_0 := xaD BK209.out 0;have hfz18_1 := xaD BK209.out 1;have hfz18_2 := xaD BK209.out 2;have hfz18_3 := xaD BK209.out 3;have hfz18_4 := xaD BK209.out 4;have hfz18_5 := xaD BK209.out 5;have hfz18_6 := xaD BK209.out 6;have hfz18_7 := xaD BK209.out 7;have hfz18_8 := xaD BK209.out 8
      go_wp2_with (first | ((with_reducible refine xaQ (f := 97) rfl ?_); refine goesL_ (some 33) rfl rfl Try.func97 (by kernel_rfl) rfl #[.int .i64 a2, .int .i64 a1_1, .int .i64 a1_2] rfl (by (try simp only [List.map_toArray, List.map_cons, List.map_nil]); first | done | rfl | (simp only [List.length_drop, List.length_take]; rfl)) ?_; (with_reducible refine (xbG.calls kj3 a2 a1_1 a1_2 t210 t211 _ A14.out).mono ?_); rintro e w' ⟨rfl, ⟨nd, rfl⟩⟩; refine ⟨_, rfl, ?_⟩; have hcz19_0 : wc.cell? ⟨gb208, 0, none⟩ = some (.int .i64 a0_0) := (xaE BK208.out 0).trans rfl; have hcz19_1 : wc.cell? ⟨gb208, 1, none⟩ = some (.slice A0_1 l0_1.length c0_1) := (xaE BK208.out 1).trans rfl; have hfz19_0 := xaD BK208.out 0; have hfz19_1 := xaD BK208.out 1) | ((with_reducible refine xaQ (f := 135) rfl ?_); refine goesL_ (some 64) rfl rfl Try.func135 (by kernel_rfl) rfl #[.agg #[.int .i64 a0_0, .slice A0_1 l0_1.length c0_1], .int .i64 t210, .int .i64 a1_8] rfl (by (try simp only [List.map_toArray, List.map_cons, List.map_nil]); first | done | rfl | (simp only [List.length_drop, List.length_take]; rfl)) ?_; (with_reducible refine (xaX.calls kj3 a0_0 _ _ l0_1 t210 a1_8 t212 _ ?side1 ?side2 A16.out).mono ?_); (case side1 => repeat (first | exact (Kd.xbT HR0_1.out (by repeat (first | (with_reducible first | exact HB.out | apply xaB | apply xaA | apply xaC | refine xaF ?_ GE208.out | refine xaF ?_ GE209.out) | exact HB.out))) | (with_reducible refine Kd.xbF ?_ _) | (with_reducible refine Kd.xbE ?_ _) | (with_reducible refine Kd.C_drew ?_))); (case side2 => exact HC0_1.out); rintro e w20 ⟨rfl, hb⟩; refine ⟨_, rfl, ?_⟩; have n0_ := Aside0.mk (xaY (g := gb208) (o := .cells #[.int .i64 a0_0, .slice A0_1 l0_1.length c0_1] 24 (0, 0)) (by (with_reducible repeat (first | refine xaG ?_ _ | refine xaJ ?_ | refine xaH ?_ _)); exact BK208.out) hb); have n1_ := Aside0.mk (xaY (g := gb209) (o := .cells #[.int .i64 a1_0, .int .i64 a1_1, .int .i64 a1_2, .int .i64 a1_3, .int .i64 a1_4, .int .i64 a1_5, .int .i64 a1_6, .int .i64 a1_7, .int .i64 a1_8] 63 (0, 0)) (by (with_reducible repeat (first | refine xaG ?_ _ | refine xaJ ?_ | refine xaH ?_ _)); exact BK209.out) hb); have n2_ := Aside0.mk (xaP (by repeat (first | (with_reducible first | exact HB.out | apply xaB | apply xaA | apply xaC | refine xaF ?_ GE208.out | refine xaF ?_ GE209.out) | exact HB.out)) hb); clear BK208; clear BK209; clear HB; have BK208 := n0_; have BK209 := n1_; have HB := n2_; clear n0_ n1_ n2_; (try clear hb); (try clear hb2); (try clear hk); (try clear hi)))
      go_ret2
      exact ⟨by first | rfl | (simp [xaL, xaK] <;> rfl) | (simp [*, xaL, xaK] <;> rfl), by repeat (first | (with_reducible first | exact HB.out | apply xaB | apply xaA | apply xaC | refine xaF ?_ GE208.out | refine xaF ?_ GE209.out) | exact HB.out)⟩
     ·
      rw [if_neg c15] at H
      have c15b0 : (t211 == 0) = false := beq_eq_false_iff_ne.mpr c15
      have c15b1 : (t211 != 0) = true := bne_iff_ne.mpr c15
      simp only [Option.some.injEq, Prod.mk.injEq] at H
      obtain ⟨rfl, rfl⟩ := H
      have hnb21 := NB209_208.out;have hnc21 := NB208_209.out
      have hcz22_0 : wc.cell? ⟨gb209, 0, none⟩ = some (.int .i64 a1_0) := (xaE BK209.out 0).trans rfl
      have hcz22_1 : wc.cell? ⟨gb209, 1, none⟩ = some (.int .i64 a1_1) := (xaE BK209.out 1).trans rfl
      have hcz22_2 : wc.cell? ⟨gb209, 2, none⟩ = some (.int .i64 a1_2) := (xaE BK209.out 2).trans rfl
      have hcz22_3 : wc.cell? ⟨gb209, 3, none⟩ = some (.int .i64 a1_3) := (xaE BK209.out 3).trans rfl
      have hcz22_4 : wc.cell? ⟨gb209, 4, none⟩ = some (.int .i64 a1_4) := (xaE BK209.out 4).trans rfl
      have hcz22_5 : wc.cell? ⟨gb209, 5, none⟩ = some (.int .i64 a1_5) := (xaE BK209.out 5).trans rfl
      have hcz22_6 : wc.cell? ⟨gb209, 6, none⟩ = some (.int .i64 a1_6) := (xaE BK209.out 6).trans rfl
      have hcz22_7 : wc.cell? ⟨gb209, 7, none⟩ = some (.int .i64 a1_7) := (xaE BK209.out 7).trans rfl
      have hcz22_8 : wc.cell? ⟨gb209, 8, none⟩ = some (.int .i64 a1_8) := (xaE BK209.out 8).trans rfl
      have hfz22_0 := xaD BK209.out 0;have hfz22_1 := xaD BK209.out 1;have hfz22_2 := xaD BK209.out 2;have hfz22_3 := xaD BK209.out 3;have hfz22_4 := xaD BK209.out 4;have hfz22_5 := xaD BK209.out 5;have hfz22_6 := xaD BK209.out 6;have hfz22_7 := xaD BK209.out 7;have hfz22_8 := xaD BK209.out 8
      go_wp2_with (first | ((with_reducible refine xaQ (f := 97) rfl ?_); refine goesL_ (some 33) rfl rfl Try.func97 (by kernel_rfl) rfl #[.int .i64 a2, .int .i64 a1_1, .int .i64 a1_2] rfl (by (try simp only [List.map_toArray, List.map_cons, List.map_nil]); first | done | rfl | (simp only [List.length_drop, List.length_take]; rfl)) ?_; (with_reducible refine (xbG.calls kj3 a2 a1_1 a1_2 t210 t211 _ A14.out).mono ?_); rintro e w' ⟨rfl, ⟨nd, rfl⟩⟩; refine ⟨_, rfl, ?_⟩))
      go_ret2
      exact ⟨by first | rfl | (simp [xaL, xaK] <;> rfl) | (simp [*, xaL, xaK] <;> rfl), by repeat (first | (with_reducible first | exact HB.out | apply xaB | apply xaA | apply xaC | refine xaF ?_ GE208.out | refine xaF ?_ GE209.out) | exact HB.out)⟩
    ·
     rw [if_neg c13] at H
     have c13b0 : (a1_0 == 1) = false := beq_eq_false_iff_ne.mpr c13
     have c13b1 : (a1_0 != 1) = true := bne_iff_ne.mpr c13
     by_cases c23 : a1_0 = 2
     ·
      rw [if_pos c23] at H
      have c23b0 : (a1_0 == 2) = true := beq_iff_eq.mpr c23
      have c23b1 : (a1_0 != 2) = false := bne_eq_false_iff_eq.mpr c23
      clear c23;replace H := Option.bind_eq_some_iff.mp H
      obtain ⟨t213, A240, H⟩ := H
      replace H : ((xaX.f kj3 a0_0 l0_1 t213 a1_8).bind fun t214 => (some (t214, true))) = some (r1, r2) := H
      have A24 := Aside0.mk A240;clear A240;replace H := Option.bind_eq_some_iff.mp H
      obtain ⟨t214, A250, H⟩ := H
      replace H : (some (t214, true)) = some (r1, r2) := H
      have A25 := Aside0.mk A250;clear A250
      simp only [Option.some.injEq, Prod.mk.injEq] at H
      obtain ⟨rfl, rfl⟩ := H
      have hnb26 := NB209_208.out;have hnc26 := NB208_209.out
      have hcz27_0 : wc.cell? ⟨gb209, 0, none⟩ = some (.int .i64 a1_0) := (xaE BK209.out 0).trans rfl
      have hcz27_1 : wc.cell? ⟨gb209, 1, none⟩ = some (.int .i64 a1_1) := (xaE BK209.out 1).trans rfl
      have hcz27_2 : wc.cell? ⟨gb209, 2, none⟩ = some (.int .i64 a1_2) := (xaE BK209.out 2).trans rfl
      have hcz27_3 : wc.cell? ⟨gb209, 3, none⟩ = some (.int .i64 a1_3) := (xaE BK209.out 3).trans rfl
      have hcz27_4 : wc.cell? ⟨gb209, 4, none⟩ = some (.int .i64 a1_4) := (xaE BK209.out 4).trans rfl
      have hcz27_5 : wc.cell? ⟨gb209, 5, none⟩ = some (.int .i64 a1_5) := (xaE BK209.out 5).trans rfl
      have hcz27_6 : wc.cell? ⟨gb209, 6, none⟩ = some (.int .i64 a1_6) := (xaE BK209.out 6).trans rfl
      have hcz27_7 : wc.cell? ⟨gb209, 7, none⟩ = some (.int .i64 a1_7) := (xaE BK209.out 7).trans rfl
      have hcz27_8 : wc.cell? ⟨gb209, 8, none⟩ = some (.int .i64 a1_8) := (xaE BK209.out 8).trans rfl
      have hfz27_0 := xaD BK209.out 0;have hfz27_1 := xaD BK209.out 1;have hfz27_2 := xaD BK209.out 2;have hfz27_3 := xaD BK209.out 3;have hfz27_4 := xaD BK209.out 4;have hfz27_5 := xaD BK209.out 5;have hfz27_6 := xaD BK209.out 6;have hfz27_7 := xaD BK209.out 7;have hfz27_8 := xaD BK209.out 8
      go_wp2_with (first | ((with_reducible refine xaQ (f := 133) rfl ?_); refine goesL_ (some 48) rfl rfl Try.func133 (by kernel_rfl) rfl #[.int .i64 a2, .int .i64 a1_1, .int .i64 a1_4, .int .i64 a1_3] rfl (by (try simp only [List.map_toArray, List.map_cons, List.map_nil]); first | done | rfl | (simp only [List.length_drop, List.length_take]; rfl)) ?_; (with_reducible refine (xcK.calls kj3 a2 a1_1 a1_4 a1_3 t213 _ A24.out).mono ?_); rintro e w' ⟨rfl, ⟨nd, rfl⟩⟩; refine ⟨_, rfl, ?_⟩; have hcz28_0 : wc.cell? ⟨gb208, 0, none⟩ = some (.int .i64 a0_0) := (xaE BK208.out 0).trans rfl; have hcz28_1 : wc.cell? ⟨gb208, 1, none⟩ = some (.slice A0_1 l0_1.length c0_1) := (xaE BK208.out 1).trans rfl; have hfz28_0 := xaD BK208.out 0; have hfz28_1 := xaD BK208.out 1) | ((with_reducible refine xaQ (f := 135) rfl ?_); refine goesL_ (some 64) rfl rfl Try.func135 (by kernel_rfl) rfl #[.agg #[.int .i64 a0_0, .slice A0_1 l0_1.length c0_1], .int .i64 t213, .int .i64 a1_8] rfl (by (try simp only [List.map_toArray, List.map_cons, List.map_nil]); first | done | rfl | (simp only [List.length_drop, List.length_take]; rfl)) ?_; (with_reducible refine (xaX.calls kj3 a0_0 _ _ l0_1 t213 a1_8 t214 _ ?side1 ?side2 A25.out).mono ?_); (case side1 => repeat (first | exact (Kd.xbT HR0_1.out (by repeat (first | (with_reducible first | exact HB.out | apply xaB | apply xaA | apply xaC | refine xaF ?_ GE208.out | refine xaF ?_ GE209.out) | exact HB.out))) | (with_reducible refine Kd.xbF ?_ _) | (with_reducible refine Kd.xbE ?_ _) | (with_reducible refine Kd.C_drew ?_))); (case side2 => exact HC0_1.out); rintro e w29 ⟨rfl, hb⟩; refine ⟨_, rfl, ?_⟩; have n0_ := Aside0.mk (xaY (g := gb208) (o := .cells #[.int .i64 a0_0, .slice A0_1 l0_1.length c0_1] 24 (0, 0)) (by (with_reducible repeat (first | refine xaG ?_ _ | refine xaJ ?_ | refine xaH ?_ _)); exact BK208.out) hb); have n1_ := Aside0.mk (xaY (g := gb209) (o := .cells #[.int .i64 a1_0, .int .i64 a1_1, .int .i64 a1_2, .int .i64 a1_3, .int .i64 a1_4, .int .i64 a1_5, .int .i64 a1_6, .int .i64 a1_7, .int .i64 a1_8] 63 (0, 0)) (by (with_reducible repeat (first | refine xaG ?_ _ | refine xaJ ?_ | refine xaH ?_ _)); exact BK209.out) hb); have n2_ := Aside0.mk (xaP (by repeat (first | (with_reducible first | exact HB.out | apply xaB | apply xaA | apply xaC | refine xaF ?_ GE208.out | refine xaF ?_ GE209.out) | exact HB.out)) hb); clear BK208; clear BK209; clear HB; have BK208 := n0_; have BK209 := n1_; have HB := n2_; clear n0_ n1_ n2_; (try clear hb); (try clear hb2); (try clear hk); (try clear hi)))
      go_ret2
      exact ⟨by first | rfl | (simp [xaL, xaK] <;> rfl) | (simp [*, xaL, xaK] <;> rfl), by repeat (first | (with_reducible first | exact HB.out | apply xaB | apply xaA | apply xaC | refine xaF ?_ GE208.out | refine xaF ?_ GE209.out) | exact HB.out)⟩
     ·
      rw [if_neg c23] at H
      have c23b0 : (a1_0 == 2) = false := beq_eq_false_iff_ne.mpr c23
      have c23b1 : (a1_0 != 2) = true := bne_iff_ne.mpr c23
      by_cases c30 : a1_0 = 3
      ·
       rw [if_pos c30] at H
       have c30b0 : (a1_0 == 3) = true := beq_iff_eq.mpr c30
       have c30b1 : (a1_0 != 3) = false := bne_eq_false_iff_eq.mpr c30
       clear c30;replace H := Option.bind_eq_some_iff.mp H
       obtain ⟨⟨t215, t216⟩, A310, H⟩ := H
       replace H : ((xaX.f kj3 a0_0 l0_1 (wrap64 (t215 + a1_5)) a1_8).bind fun t217 => (some (t217, true))) = some (r1, r2) := H
       have A31 := Aside0.mk A310;clear A310;replace H := Option.bind_eq_some_iff.mp H
       obtain ⟨t217, A320, H⟩ := H
       replace H : (some (t217, true)) = some (r1, r2) := H
       have A32 := Aside0.mk A320;clear A320
       simp only [Option.some.injEq, Prod.mk.injEq] at H
       obtain ⟨rfl, rfl⟩ := H
       have hnb33 := NB209_208.out;have hnc33 := NB208_209.out
       have hcz34_0 : wc.cell? ⟨gb209, 0, none⟩ = some (.int .i64 a1_0) := (xaE BK209.out 0).trans rfl
       have hcz34_1 : wc.cell? ⟨gb209, 1, none⟩ = some (.int .i64 a1_1) := (xaE BK209.out 1).trans rfl
       have hcz34_2 : wc.cell? ⟨gb209, 2, none⟩ = some (.int .i64 a1_2) := (xaE BK209.out 2).trans rfl
       have hcz34_3 : wc.cell? ⟨gb209, 3, none⟩ = some (.int .i64 a1_3) := (xaE BK209.out 3).trans rfl
       have hcz34_4 : wc.cell? ⟨gb209, 4, none⟩ = some (.int .i64 a1_4) := (xaE BK209.out 4).trans rfl
       have hcz34_5 : wc.cell? ⟨gb209, 5, none⟩ = some (.int .i64 a1_5) := (xaE BK209.out 5).trans rfl
       have hcz34_6 : wc.cell? ⟨gb209, 6, none⟩ = some (.int .i64 a1_6) := (xaE BK209.out 6).trans rfl
       have hcz34_7 : wc.cell? ⟨gb209, 7, none⟩ = some (.int .i64 a1_7) := (xaE BK209.out 7).trans rfl
       have hcz34_8 : wc.cell? ⟨gb209, 8, none⟩ = some (.int .i64 a1_8) := (xaE BK209.out 8).trans rfl
       have hfz34_0 := xaD BK209.out 0;have hfz34_1 := xaD BK209.out 1;have hfz34_2 := xaD BK209.out 2;have hfz34_3 := xaD BK209.out 3;have hfz34_4 := xaD BK209.out 4;have hfz34_5 := xaD BK209.out 5;have hfz34_6 := xaD BK209.out 6;have hfz34_7 := xaD BK209.out 7;have hfz34_8 := xaD BK209.out 8
       go_wp2_with (first | ((with_reducible refine xaQ (f := 134) rfl ?_); refine goesL_ (some 53) rfl rfl Try.func134 (by kernel_rfl) rfl #[.int .i64 a2] rfl (by (try simp only [List.map_toArray, List.map_cons, List.map_nil]); first | done | rfl | (simp only [List.length_drop, List.length_take]; rfl)) ?_; (with_reducible refine (xdV.calls a2 t215 t216 _ A31.out).mono ?_); rintro e w' ⟨rfl, ⟨nd, rfl⟩⟩; refine ⟨_, rfl, ?_⟩; have hcz35_0 : wc.cell? ⟨gb208, 0, none⟩ = some (.int .i64 a0_0) := (xaE BK208.out 0).trans rfl; have hcz35_1 : wc.cell? ⟨gb208, 1, none⟩ = some (.slice A0_1 l0_1.length c0_1) := (xaE BK208.out 1).trans rfl; have hfz35_0 := xaD BK208.out 0; have hfz35_1 := xaD BK208.out 1) | ((with_reducible refine xaQ (f := 135) rfl ?_); refine goesL_ (some 64) rfl rfl Try.func135 (by kernel_rfl) rfl #[.agg #[.int .i64 a0_0, .slice A0_1 l0_1.length c0_1], .int .i64 (wrap64 (t215 + a1_5)), .int .i64 a1_8] rfl (by (try simp only [List.map_toArray, List.map_cons, List.map_nil]); first | done | rfl | (simp only [List.length_drop, List.length_take]; rfl)) ?_; (with_reducible refine (xaX.calls kj3 a0_0 _ _ l0_1 (wrap64 (t215 + a1_5)) a1_8 t217 _ ?side1 ?side2 A32.out).mono ?_); (case side1 => repeat (first | exact (Kd.xbT HR0_1.out (by repeat (first | (with_reducible first | exact HB.out | apply xaB | apply xaA | apply xaC | refine xaF ?_ GE208.out | refine xaF ?_ GE209.out) | exact HB.out))) | (with_reducible refine Kd.xbF ?_ _) | (with_reducible refine Kd.xbE ?_ _) | (with_reducible refine Kd.C_drew ?_))); (case side2 => exact HC0_1.out); rintro e w36 ⟨rfl, hb⟩; refine ⟨_, rfl, ?_⟩; have n0_ := Aside0.mk (xaY (g := gb208) (o := .cells #[.int .i64 a0_0, .slice A0_1 l0_1.length c0_1] 24 (0, 0)) (by (with_reducible repeat (first | refine xaG ?_ _ | refine xaJ ?_ | refine xaH ?_ _)); exact BK208.out) hb); have n1_ := Aside0.mk (xaY (g := gb209) (o := .cells #[.int .i64 a1_0, .int .i64 a1_1, .int .i64 a1_2, .int .i64 a1_3, .int .i64 a1_4, .int .i64 a1_5, .int .i64 a1_6, .int .i64 a1_7, .int .i64 a1_8] 63 (0, 0)) (by (with_reducible repeat (first | refine xaG ?_ _ | refine xaJ ?_ | refine xaH ?_ _)); exact BK209.out) hb); have n2_ := Aside0.mk (xaP (by repeat (first | (with_reducible first | exact HB.out | apply xaB | apply xaA | apply xaC | refine xaF ?_ GE208.out | refine xaF ?_ GE209.out) | exact HB.out)) hb); clear BK208; clear BK209; clear HB; have BK208 := n0_; have BK209 := n1_; have HB := n2_; clear n0_ n1_ n2_; (try clear hb); (try clear hb2); (try clear hk); (try clear hi)))
       go_ret2
       exact ⟨by first | rfl | (simp [xaL, xaK] <;> rfl) | (simp [*, xaL, xaK] <;> rfl), by repeat (first | (with_reducible first | exact HB.out | apply xaB | apply xaA | apply xaC | refine xaF ?_ GE208.out | refine xaF ?_ GE209.out) | exact HB.out)⟩
      ·
       rw [if_neg c30] at H
       have c30b0 : (a1_0 == 3) = false := beq_eq_false_iff_ne.mpr c30
       have c30b1 : (a1_0 != 3) = true := bne_iff_ne.mpr c30
       replace H := Option.bind_eq_some_iff.mp H
       obtain ⟨t218, A370, H⟩ := H
       replace H : (some (t218, true)) = some (r1, r2) := H
       have A37 := Aside0.mk A370;clear A370
       simp only [Option.some.injEq, Prod.mk.injEq] at H
       obtain ⟨rfl, rfl⟩ := H
       have hnb38 := NB209_208.out;have hnc38 := NB208_209.out
       have hcz39_0 : wc.cell? ⟨gb209, 0, none⟩ = some (.int .i64 a1_0) := (xaE BK209.out 0).trans rfl
       have hcz39_1 : wc.cell? ⟨gb209, 1, none⟩ = some (.int .i64 a1_1) := (xaE BK209.out 1).trans rfl
       have hcz39_2 : wc.cell? ⟨gb209, 2, none⟩ = some (.int .i64 a1_2) := (xaE BK209.out 2).trans rfl
       have hcz39_3 : wc.cell? ⟨gb209, 3, none⟩ = some (.int .i64 a1_3) := (xaE BK209.out 3).trans rfl
       have hcz39_4 : wc.cell? ⟨gb209, 4, none⟩ = some (.int .i64 a1_4) := (xaE BK209.out 4).trans rfl
       have hcz39_5 : wc.cell? ⟨gb209, 5, none⟩ = some (.int .i64 a1_5) := (xaE BK209.out 5).trans rfl
       have hcz39_6 : wc.cell? ⟨gb209, 6, none⟩ = some (.int .i64 a1_6) := (xaE BK209.out 6).trans rfl
       have hcz39_7 : wc.cell? ⟨gb209, 7, none⟩ = some (.int .i64 a1_7) := (xaE BK209.out 7).trans rfl
       have hcz39_8 : wc.cell? ⟨gb209, 8, none⟩ = some (.int .i64 a1_8) := (xaE BK209.out 8).trans rfl
       have hfz39_0 := xaD BK209.out 0;have hfz39_1 := xaD BK209.out 1;have hfz39_2 := xaD BK209.out 2;have hfz39_3 := xaD BK209.out 3;have hfz39_4 := xaD BK209.out 4;have hfz39_5 := xaD BK209.out 5;have hfz39_6 := xaD BK209.out 6;have hfz39_7 := xaD BK209.out 7;have hfz39_8 := xaD BK209.out 8
       have hcz40_0 : wc.cell? ⟨gb208, 0, none⟩ = some (.int .i64 a0_0) := (xaE BK208.out 0).trans rfl
       have hcz40_1 : wc.cell? ⟨gb208, 1, none⟩ = some (.slice A0_1 l0_1.length c0_1) := (xaE BK208.out 1).trans rfl
       have hfz40_0 := xaD BK208.out 0;have hfz40_1 := xaD BK208.out 1
       go_wp2_with (first | ((with_reducible refine xaQ (f := 135) rfl ?_); refine goesL_ (some 64) rfl rfl Try.func135 (by kernel_rfl) rfl #[.agg #[.int .i64 a0_0, .slice A0_1 l0_1.length c0_1], .int .i64 0, .int .i64 a1_8] rfl (by (try simp only [List.map_toArray, List.map_cons, List.map_nil]); first | done | rfl | (simp only [List.length_drop, List.length_take]; rfl)) ?_; (with_reducible refine (xaX.calls kj3 a0_0 _ _ l0_1 0 a1_8 t218 _ ?side1 ?side2 A37.out).mono ?_); (case side1 => repeat (first | exact (Kd.xbT HR0_1.out HB.out) | (with_reducible refine Kd.xbF ?_ _) | (with_reducible refine Kd.xbE ?_ _) | (with_reducible refine Kd.C_drew ?_))); (case side2 => exact HC0_1.out); rintro e w41 ⟨rfl, hb⟩; refine ⟨_, rfl, ?_⟩; have n0_ := Aside0.mk (xaY (g := gb208) (o := .cells #[.int .i64 a0_0, .slice A0_1 l0_1.length c0_1] 24 (0, 0)) (by (with_reducible repeat (first | refine xaG ?_ _ | refine xaJ ?_ | refine xaH ?_ _)); exact BK208.out) hb); have n1_ := Aside0.mk (xaY (g := gb209) (o := .cells #[.int .i64 a1_0, .int .i64 a1_1, .int .i64 a1_2, .int .i64 a1_3, .int .i64 a1_4, .int .i64 a1_5, .int .i64 a1_6, .int .i64 a1_7, .int .i64 a1_8] 63 (0, 0)) (by (with_reducible repeat (first | refine xaG ?_ _ | refine xaJ ?_ | refine xaH ?_ _)); exact BK209.out) hb); have n2_ := Aside0.mk (xaP (by repeat (first | (with_reducible first | exact HB.out | apply xaB | apply xaA | apply xaC | refine xaF ?_ GE208.out | refine xaF ?_ GE209.out) | exact HB.out)) hb); clear BK208; clear BK209; clear HB; have BK208 := n0_; have BK209 := n1_; have HB := n2_; clear n0_ n1_ n2_; (try clear hb); (try clear hb2); (try clear hk); (try clear hi)))
       go_ret2
       exact ⟨by first | rfl | (simp [xaL, xaK] <;> rfl) | (simp [*, xaL, xaK] <;> rfl), by repeat (first | (with_reducible first | exact HB.out | apply xaB | apply xaA | apply xaC | refine xaF ?_ GE208.out | refine xaF ?_ GE209.out) | exact HB.out)⟩
end Go.Proofs.Ytoncignjcgjhhaa.Q
