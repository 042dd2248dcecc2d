/- Contracts and facts of functions of the program (calendar, dates and their documents), joined in one text by a program of this session. No condition but what each theorem states. -/
import Derived.Test.YtoncignjcgjhhaaCGA
import Derived.Test.YtoncignjcgjhhaaCGM
import Derived.Test.YtoncignjcgjhhaaCGO
import Derived.Test.YtoncignjcgjhhaaCGQ
set_option linter.unusedVariables false
set_option linter.unusedSimpArgs false
namespace Go.Proofs.Ytoncignjcgjhhaa.Q
open Go.RowKit Go.Proofs.YtoncignjcgjhhaaW.PrintWords Go.Proofs.YtoncignjcgjhhaaW.PrintLast Go.Proofs.YtoncignjcgjhhaaW.PrintMore
attribute [local go_sem] xcC xcB xcR xcQ xbX xbW xcF xcE   -- for this text's walks alone
def xaV.j0 : Nat → Bool → Bool → List Int → Int → Option (Int)
  | 0, _, _, _, _ => none
  | k + 1, x20, x418000, x418001, x418002 => if x20 = true then ((xcL.f x418000 9218868437227405312).bind fun t421 => (some t421)) else ((xcL.f x418000 0).bind fun t422 => (some t422))
def xaV.f (k : Nat) (a0_0 : Bool) (l0_1 : List Int) (a0_2 : Int) (a1 : Bool) : Option (Int) := (xdB.f a0_0 l0_1 a0_2).bind fun t418 => (if t418 = true then (some 0) else ((xdM.f k a0_0 l0_1 a0_2).bind fun t419 => (if t419 = true then (if a0_2 > 0 then (xaV.j0 k true a0_0 l0_1 a0_2) else ((xbC.f k l0_1).bind fun t420 => (xaV.j0 k (decide ((wrap64 (t420 + a0_2)) > 0)) a0_0 l0_1 a0_2))) else ((xcZ.f k l0_1 a0_2 a1 53 (-1074)).bind fun t423 => ((xcL.f a0_0 t423).bind fun t424 => (some t424))))))
def xaV.T4 : Bool × List (List Nat × List Nat) := (true, [([], []), ([0], [0]), ([1], [1]), ([2], [2]), ([3], [3]), ([4, 3], [3, 4]), ([5, 3, 3], [3, 5]), ([3], [3]), ([7, 3], [3, 7]), ([6, 8, 3], [3, 6, 8]), ([9, 3], [3, 9]), ([3, 10], [3, 10])])
def xaV.B4 : List Nat := [0, 1, 3, 7, 15, 31, 63, 15, 143, 511, 1023, 2047]
theorem xaV.tab4 : rtab .any (opsOf Try.f103 4) = xaV.T4 := by kernel_rfl
theorem xaV.bits4 : xfP xaV.T4.2 xaV.B4 = true := by kernel_rfl
def xaV.T7 : Bool × List (List Nat × List Nat) := (true, [([], []), ([0], [0]), ([], []), ([2], [2]), ([], []), ([4], [4]), ([], []), ([3, 5, 6], [3, 5, 6]), ([1, 7, 7], [1, 7]), ([8, 8, 0, 1, 2, 3, 4, 5, 6, 7, 8], [8])])
def xaV.B7 : List Nat := [0, 1, 0, 4, 0, 16, 0, 124, 255, 511]
theorem xaV.tab7 : rtab .any (opsOf Try.f103 7) = xaV.T7 := by kernel_rfl
theorem xaV.bits7 : xfP xaV.T7.2 xaV.B7 = true := by kernel_rfl
set_option maxHeartbeats 8000000 in
set_option maxRecDepth 100000 in
theorem xaV.calls (k : Nat) (a0_0 : Bool) (A0_1 : Option Addr) (c0_1 : Nat) (l0_1 : List Int) (a0_2 : Int) (a1 : Bool) (r : Int) (w : World) (hr0_1 : Kd.C (Kd.int .u64) w A0_1 l0_1.length l0_1) (hc0_1 : l0_1.length ≤ c0_1) (h : xaV.f k a0_0 l0_1 a0_2 a1 = some r) :
  Calls Try.prog 103 #[.agg #[.bool a0_0, .slice A0_1 l0_1.length c0_1, .int .i64 a0_2], .bool a1] w fun e w' => e = .returned (.int .u64 r) ∧ Below w.heap.size w w' := by
 have hu96 := Try.underlying96;have HR0_1 := Aside0.mk hr0_1;have HC0_1 := Aside0.mk hc0_1;clear hr0_1 hc0_1
 have HB := Aside0.mk (Below.refl w.heap.size w)
 have H : ((xdB.f a0_0 l0_1 a0_2).bind fun t418 => (if t418 = true then (some 0) else ((xdM.f k a0_0 l0_1 a0_2).bind fun t419 => (if t419 = true then (if a0_2 > 0 then (xaV.j0 k true a0_0 l0_1 a0_2) else ((xbC.f k l0_1).bind fun t420 => (xaV.j0 k (decide ((wrap64 (t420 + a0_2)) > 0)) a0_0 l0_1 a0_2))) else ((xcZ.f k l0_1 a0_2 a1 53 (-1074)).bind fun t423 => ((xcL.f a0_0 t423).bind fun t424 => (some t424))))))) = some r := h
 clear h;replace H := Option.bind_eq_some_iff.mp H
 obtain ⟨t418, A30, H⟩ := H
 replace H : (if t418 = true then (some 0) else ((xdM.f k a0_0 l0_1 a0_2).bind fun t419 => (if t419 = true then (if a0_2 > 0 then (xaV.j0 k true a0_0 l0_1 a0_2) else ((xbC.f k l0_1).bind fun t420 => (xaV.j0 k (decide ((wrap64 (t420 + a0_2)) > 0)) a0_0 l0_1 a0_2))) else ((xcZ.f k l0_1 a0_2 a1 53 (-1074)).bind fun t423 => ((xcL.f a0_0 t423).bind fun t424 => (some t424)))))) = some r := H
 have A3 := Aside0.mk A30;clear A30
 by_cases c4 : t418 = true
 ·
  subst c4
  have H1 : (some 0) = some r := by rw [if_pos rfl] at H; exact H
  clear H;have H := H1;clear H1
  obtain rfl := Option.some.inj H
  go_enter Try.func103, Try.ntmps103
  go_wp2_with (first | ((with_reducible refine xbM (N := 2) rfl ?_); refine xbJ ?hg (N := 2) ?hd (cs := #[.bool a0_0, .slice A0_1 l0_1.length c0_1, .int .i64 a0_2]) (t := 96) ?hr ?_; (case hd => rfl); (case hg => rfl); (case hr => first | (go_simp; done) | (go_simp; rfl)); intro gb417 hg w5 hbox hb; have n0_ := Aside0.mk (xaP (by repeat (first | (with_reducible first | exact HB.out | apply xaB | apply xaA | apply xaC) | exact HB.out)) hb); have n1_ := Aside0.mk (hbox); have n2_ := Aside0.mk ((by rw [hg]; exact (xaR (by repeat (first | (with_reducible first | exact HB.out | apply xaB | apply xaA | apply xaC) | exact HB.out))) : w.heap.size ≤ gb417)); have n3_ := Aside0.mk ((by rw [hg]; exact (xaR (by repeat (first | (with_reducible first | exact HB.out | apply xaB | apply xaA | apply xaC) | exact HB.out))) : w.heap.size ≤ gb417)); clear HB; have HB := n0_; have BK417 := n1_; have GW417 := n2_; have GE417 := n3_; clear n0_ n1_ n2_ n3_; clear hb hbox hg; have hcz6_0 : w5.cell? ⟨gb417, 0, none⟩ = some (.bool a0_0) := (xaE BK417.out 0).trans rfl; have hcz6_1 : w5.cell? ⟨gb417, 1, none⟩ = some (.slice A0_1 l0_1.length c0_1) := (xaE BK417.out 1).trans rfl; have hcz6_2 : w5.cell? ⟨gb417, 2, none⟩ = some (.int .i64 a0_2) := (xaE BK417.out 2).trans rfl; have hfz6_0 := xaD BK417.out 0; have hfz6_1 := xaD BK417.out 1; have hfz6_2 := xaD BK417.out 2) | ((with_reducible refine xaQ (f := 99) rfl ?_); refine goesL_ (some 6) rfl rfl Try.func99 (by kernel_rfl) rfl #[.agg #[.bool a0_0, .slice A0_1 l0_1.length c0_1, .int .i64 a0_2]] rfl (by (try simp only [List.map_toArray, List.map_cons, List.map_nil]); first | done | rfl | (simp only [List.length_drop, List.length_take]; rfl)) ?_; (with_reducible refine (xdB.calls a0_0 _ _ l0_1 a0_2 true _ ?side1 ?side2 A3.out).mono ?_); (case side1 => repeat (first | exact (Kd.xbT HR0_1.out HB.out) | (with_reducible refine Kd.xbF ?_ _) | (with_reducible refine Kd.xbE ?_ _) | (with_reducible refine Kd.C_drew ?_))); (case side2 => exact HC0_1.out); rintro e w7 ⟨rfl, hb⟩; refine ⟨_, rfl, ?_⟩; have n0_ := Aside0.mk (xaY (g := gb417) (o := .cells #[.bool a0_0, .slice A0_1 l0_1.length c0_1, .int .i64 a0_2] 96 (0, 0)) (by (with_reducible repeat (first | refine xaG ?_ _ | refine xaJ ?_ | refine xaH ?_ _)); exact BK417.out) hb); have n1_ := Aside0.mk (xaP (by repeat (first | (with_reducible first | exact HB.out | apply xaB | apply xaA | apply xaC | refine xaF ?_ GE417.out) | exact HB.out)) hb); clear BK417; clear HB; have BK417 := n0_; have HB := n1_; clear n0_ n1_; (try clear hb); (try clear hb2); (try clear hk); (try clear hi)))
  go_ret
  exact ⟨by first | rfl | (simp [xaL, xaK] <;> rfl) | (simp [*, xaL, xaK] <;> rfl), by repeat (first | (with_reducible first | exact HB.out | apply xaB | apply xaA | apply xaC | refine xaF ?_ GE417.out) | exact HB.out)⟩
 ·
  replace c4 := Bool.eq_false_iff.mpr c4;subst c4
  have H1 : ((xdM.f k a0_0 l0_1 a0_2).bind fun t419 => (if t419 = true then (if a0_2 > 0 then (xaV.j0 k true a0_0 l0_1 a0_2) else ((xbC.f k l0_1).bind fun t420 => (xaV.j0 k (decide ((wrap64 (t420 + a0_2)) > 0)) a0_0 l0_1 a0_2))) else ((xcZ.f k l0_1 a0_2 a1 53 (-1074)).bind fun t423 => ((xcL.f a0_0 t423).bind fun t424 => (some t424))))) = some r := by rw [if_neg (show ¬ (false = true) by decide)] at H; exact H
  clear H;have H := H1;clear H1;replace H := Option.bind_eq_some_iff.mp H
  obtain ⟨t419, A80, H⟩ := H
  replace H : (if t419 = true then (if a0_2 > 0 then (xaV.j0 k true a0_0 l0_1 a0_2) else ((xbC.f k l0_1).bind fun t420 => (xaV.j0 k (decide ((wrap64 (t420 + a0_2)) > 0)) a0_0 l0_1 a0_2))) else ((xcZ.f k l0_1 a0_2 a1 53 (-1074)).bind fun t423 => ((xcL.f a0_0 t423).bind fun t424 => (some t424)))) = some r := H
  have A8 := Aside0.mk A80;clear A80
  by_cases c9 : t419 = true
  ·
   subst c9
   have H1 : (if a0_2 > 0 then (xaV.j0 k true a0_0 l0_1 a0_2) else ((xbC.f k l0_1).bind fun t420 => (xaV.j0 k (decide ((wrap64 (t420 + a0_2)) > 0)) a0_0 l0_1 a0_2))) = some r := by rw [if_pos rfl] at H; exact H
   clear H;have H := H1;clear H1;have HC10 := Aside0.mk H;clear H
   go_enter Try.func103, Try.ntmps103
   go_upto_region 4 with (first | ((with_reducible refine xbM (N := 2) rfl ?_); refine xbJ ?hg (N := 2) ?hd (cs := #[.bool a0_0, .slice A0_1 l0_1.length c0_1, .int .i64 a0_2]) (t := 96) ?hr ?_; (case hd => rfl); (case hg => rfl); (case hr => first | (go_simp; done) | (go_simp; rfl)); intro gb417 hg w11 hbox hb; have n0_ := Aside0.mk (xaP (by repeat (first | (with_reducible first | exact HB.out | apply xaB | apply xaA | apply xaC) | exact HB.out)) hb); have n1_ := Aside0.mk (hbox); have n2_ := Aside0.mk ((by rw [hg]; exact (xaR (by repeat (first | (with_reducible first | exact HB.out | apply xaB | apply xaA | apply xaC) | exact HB.out))) : w.heap.size ≤ gb417)); have n3_ := Aside0.mk ((by rw [hg]; exact (xaR (by repeat (first | (with_reducible first | exact HB.out | apply xaB | apply xaA | apply xaC) | exact HB.out))) : w.heap.size ≤ gb417)); clear HB; have HB := n0_; have BK417 := n1_; have GW417 := n2_; have GE417 := n3_; clear n0_ n1_ n2_ n3_; clear hb hbox hg; have hcz12_0 : w11.cell? ⟨gb417, 0, none⟩ = some (.bool a0_0) := (xaE BK417.out 0).trans rfl; have hcz12_1 : w11.cell? ⟨gb417, 1, none⟩ = some (.slice A0_1 l0_1.length c0_1) := (xaE BK417.out 1).trans rfl; have hcz12_2 : w11.cell? ⟨gb417, 2, none⟩ = some (.int .i64 a0_2) := (xaE BK417.out 2).trans rfl; have hfz12_0 := xaD BK417.out 0; have hfz12_1 := xaD BK417.out 1; have hfz12_2 := xaD BK417.out 2) | ((with_reducible refine xaQ (f := 99) rfl ?_); refine goesL_ (some 6) rfl rfl Try.func99 (by kernel_rfl) rfl #[.agg #[.bool a0_0, .slice A0_1 l0_1.length c0_1, .int .i64 a0_2]] rfl (by (try simp only [List.map_toArray, List.map_cons, List.map_nil]); first | done | rfl | (simp only [List.length_drop, List.length_take]; rfl)) ?_; (with_reducible refine (xdB.calls a0_0 _ _ l0_1 a0_2 false _ ?side1 ?side2 A3.out).mono ?_); (case side1 => repeat (first | exact (Kd.xbT HR0_1.out HB.out) | (with_reducible refine Kd.xbF ?_ _) | (with_reducible refine Kd.xbE ?_ _) | (with_reducible refine Kd.C_drew ?_))); (case side2 => exact HC0_1.out); rintro e w13 ⟨rfl, hb⟩; refine ⟨_, rfl, ?_⟩; have n0_ := Aside0.mk (xaY (g := gb417) (o := .cells #[.bool a0_0, .slice A0_1 l0_1.length c0_1, .int .i64 a0_2] 96 (0, 0)) (by (with_reducible repeat (first | refine xaG ?_ _ | refine xaJ ?_ | refine xaH ?_ _)); exact BK417.out) hb); have n1_ := Aside0.mk (xaP (by repeat (first | (with_reducible first | exact HB.out | apply xaB | apply xaA | apply xaC | refine xaF ?_ GE417.out) | exact HB.out)) hb); clear BK417; clear HB; have BK417 := n0_; have HB := n1_; clear n0_ n1_; (try clear hb); (try clear hb2); (try clear hk); (try clear hi); have hcz14_0 : w13.cell? ⟨gb417, 0, none⟩ = some (.bool a0_0) := (xaE BK417.out 0).trans rfl; have hcz14_1 : w13.cell? ⟨gb417, 1, none⟩ = some (.slice A0_1 l0_1.length c0_1) := (xaE BK417.out 1).trans rfl; have hcz14_2 : w13.cell? ⟨gb417, 2, none⟩ = some (.int .i64 a0_2) := (xaE BK417.out 2).trans rfl; have hfz14_0 := xaD BK417.out 0; have hfz14_1 := xaD BK417.out 1; have hfz14_2 := xaD BK417.out 2) | ((with_reducible refine xaQ (f := 129) rfl ?_); refine goesL_ (some 8) rfl rfl Try.func129 (by kernel_rfl) rfl #[.agg #[.bool a0_0, .slice A0_1 l0_1.length c0_1, .int .i64 a0_2]] rfl (by (try simp only [List.map_toArray, List.map_cons, List.map_nil]); first | done | rfl | (simp only [List.length_drop, List.length_take]; rfl)) ?_; (with_reducible refine (xdM.calls k a0_0 _ _ l0_1 a0_2 true _ ?side1 ?side2 A8.out).mono ?_); (case side1 => repeat (first | exact (Kd.xbT HR0_1.out HB.out) | (with_reducible refine Kd.xbF ?_ _) | (with_reducible refine Kd.xbE ?_ _) | (with_reducible refine Kd.C_drew ?_))); (case side2 => exact HC0_1.out); rintro e w15 ⟨rfl, hb⟩; refine ⟨_, rfl, ?_⟩; have n0_ := Aside0.mk (xaY (g := gb417) (o := .cells #[.bool a0_0, .slice A0_1 l0_1.length c0_1, .int .i64 a0_2] 96 (0, 0)) (by (with_reducible repeat (first | refine xaG ?_ _ | refine xaJ ?_ | refine xaH ?_ _)); exact BK417.out) hb); have n1_ := Aside0.mk (xaP (by repeat (first | (with_reducible first | exact HB.out | apply xaB | apply xaA | apply xaC | refine xaF ?_ GE417.out) | exact HB.out)) hb); clear BK417; clear HB; have BK417 := n0_; have HB := n1_; clear n0_ n1_; (try clear hb); (try clear hb2); (try clear hk); (try clear hi)))
   (try simp only [Act.put, List.setIfInBounds_toArray, List.set_cons_zero, List.set_cons_succ])
   go_cut [20] (fun v20 wc => ∃ (kq : Nat) (x20_9 : Bool), v20 = .bool x20_9 ∧ Aside0 (xaV.j0 kq x20_9 a0_0 l0_1 a0_2 = some r) ∧ Aside0 (kq ≤ k) ∧ Aside0 (wc.heap[gb417]? = some (.cells #[.bool a0_0, (.slice A0_1 l0_1.length c0_1), .int .i64 a0_2] 96 (0, 0))) ∧ Aside0 (Below w.heap.size w wc))
   case first =>
    have H := HC10.out;clear HC10
    by_cases c16 : a0_2 > 0
    ·
     rw [if_pos c16] at H
     have c16b0 : decide (0 < a0_2) = true := decide_eq_true c16
     clear c16
     (first | rw [c16b0] | (simp only [i64_w, i32_w]; rw [c16b0]) | skip)
     have H' := Aside0.mk H;clear H
     try go_wp2
     have n0_ := Aside0.mk (xaJ BK417.out)
     have n1_ := Aside0.mk (xaC HB.out)
     clear BK417 HB;have BK417 := n0_;have HB := n1_;clear n0_ n1_
     refine start_ (n := 12) (S := fun w' => w'.cell? ⟨gb417, 0, none⟩ = some (.bool a0_0) ∧ w'.cell? ⟨gb417, 1, none⟩ = some (.slice A0_1 l0_1.length c0_1) ∧ w'.cell? ⟨gb417, 2, none⟩ = some (.int .i64 a0_2)) (ds := []) #[false, false, false, false, false, false, false, false, false, false, false, false] (by kernel_rfl) rfl rfl ⟨(xaE BK417.out 0).trans rfl, (xaE BK417.out 1).trans rfl, (xaE BK417.out 2).trans rfl⟩ (fun hHeld => ?_); refine xeR xaV.tab4 xaV.bits4 (fun HT_ HW_ => ?_)
     generalize w15.drew = w17 at BK417 HB hHeld ⊢
     refine pure_ (i := 0) (N := some 9) (v := ?_) (a' := ?_) #[true, false, false, false, false, false, false, false, false, false, false, false] rfl rfl (any_of HT_.out (by kernel_rfl)) (fun _ _ _ h => h) (Or.inl ⟨by rfl, ?_⟩) ?_ ?_
     rotate_left
     ·
      intro w'
      go_simp
      with_reducible rfl
     rotate_left
     ·
      simp only [Act.put, List.setIfInBounds_toArray, List.set_cons_zero, List.set_cons_succ, i64_w, i32_w]
      rfl
     refine take_ (i := 1) (N := some 10) (v := ?_) (a' := ?_) #[true, true, false, false, false, false, false, false, false, false, false, false] rfl rfl (xdY HT_.out HW_.out (by kernel_rfl)) (fun _ _ _ h => h) (Or.inl ⟨by rfl, ?_⟩) hHeld ?_ ?_
     rotate_left
     ·
      rintro w' ⟨s0, s1, s2⟩
      go_simp
      with_reducible rfl
     rotate_left
     ·
      simp only [Act.put, List.setIfInBounds_toArray, List.set_cons_zero, List.set_cons_succ, i64_w, i32_w]
      rfl
     refine pure_ (i := 2) (N := some 11) (v := ?_) (a' := ?_) #[true, true, true, false, false, false, false, false, false, false, false, false] rfl rfl (any_of HT_.out (by kernel_rfl)) (fun _ _ _ h => h) (Or.inl ⟨by rfl, ?_⟩) ?_ ?_
     rotate_left
     ·
      intro w'
      go_simp
      with_reducible rfl
     rotate_left
     ·
      simp only [Act.put, List.setIfInBounds_toArray, List.set_cons_zero, List.set_cons_succ, i64_w, i32_w]
      rfl
     refine pure_ (i := 3) (N := some 12) (v := ?_) (a' := ?_) #[true, true, true, true, false, false, false, false, false, false, false, false] rfl rfl (any_of HT_.out (by kernel_rfl)) (fun _ _ _ h => h) (Or.inl ⟨by rfl, ?_⟩) ?_ ?_
     rotate_left
     ·
      intro w'
      go_simp
      with_reducible rfl
     rotate_left
     ·
      simp only [Act.put, List.setIfInBounds_toArray, List.set_cons_zero, List.set_cons_succ, i64_w, i32_w]
      rfl
     refine pure_ (i := 4) (N := some 13) (v := undef) (a' := ?_) #[true, true, true, true, true, false, false, false, false, false, false, false] rfl rfl (any_of HT_.out (by kernel_rfl)) (fun _ _ _ h => h) (Or.inr ⟨by rfl, rfl⟩) ?_ ?_
     rotate_left
     ·
      simp only [Act.put, List.setIfInBounds_toArray, List.set_cons_zero, List.set_cons_succ, i64_w, i32_w]
      rfl
     refine pure_ (i := 5) (N := some 14) (v := undef) (a' := ?_) #[true, true, true, true, true, true, false, false, false, false, false, false] rfl rfl (any_of HT_.out (by kernel_rfl)) (fun _ _ _ h => h) (Or.inr ⟨by rfl, rfl⟩) ?_ ?_
     rotate_left
     ·
      simp only [Act.put, List.setIfInBounds_toArray, List.set_cons_zero, List.set_cons_succ, i64_w, i32_w]
      rfl
     refine pure_ (i := 6) (N := some 15) (v := undef) (a' := ?_) #[true, true, true, true, true, true, true, false, false, false, false, false] rfl rfl (any_of HT_.out (by kernel_rfl)) (fun _ _ _ h => h) (Or.inr ⟨by rfl, rfl⟩) ?_ ?_
     rotate_left
     ·
      simp only [Act.put, List.setIfInBounds_toArray, List.set_cons_zero, List.set_cons_succ, i64_w, i32_w]
      rfl
     refine pure_ (i := 7) (N := some 16) (v := undef) (a' := ?_) #[true, true, true, true, true, true, true, true, false, false, false, false] rfl rfl (any_of HT_.out (by kernel_rfl)) (fun _ _ _ h => h) (Or.inr ⟨by rfl, rfl⟩) ?_ ?_
     rotate_left
     ·
      simp only [Act.put, List.setIfInBounds_toArray, List.set_cons_zero, List.set_cons_succ, i64_w, i32_w]
      rfl
     refine pure_ (i := 8) (N := some 17) (v := undef) (a' := ?_) #[true, true, true, true, true, true, true, true, true, false, false, false] rfl rfl (any_of HT_.out (by kernel_rfl)) (fun _ _ _ h => h) (Or.inr ⟨by rfl, rfl⟩) ?_ ?_
     rotate_left
     ·
      simp only [Act.put, List.setIfInBounds_toArray, List.set_cons_zero, List.set_cons_succ, i64_w, i32_w]
      rfl
     refine pure_ (i := 9) (N := some 18) (v := undef) (a' := ?_) #[true, true, true, true, true, true, true, true, true, true, false, false] rfl rfl (any_of HT_.out (by kernel_rfl)) (fun _ _ _ h => h) (Or.inr ⟨by rfl, rfl⟩) ?_ ?_
     rotate_left
     ·
      simp only [Act.put, List.setIfInBounds_toArray, List.set_cons_zero, List.set_cons_succ, i64_w, i32_w]
      rfl
     refine pure_ (i := 10) (N := some 19) (v := undef) (a' := ?_) #[true, true, true, true, true, true, true, true, true, true, true, false] rfl rfl (any_of HT_.out (by kernel_rfl)) (fun _ _ _ h => h) (Or.inr ⟨by rfl, rfl⟩) ?_ ?_
     rotate_left
     ·
      simp only [Act.put, List.setIfInBounds_toArray, List.set_cons_zero, List.set_cons_succ, i64_w, i32_w]
      rfl
     refine pure_ (i := 11) (N := some 20) (v := ?_) (a' := ?_) #[true, true, true, true, true, true, true, true, true, true, true, true] rfl rfl (any_of HT_.out (by kernel_rfl)) (fun _ _ _ h => h) (Or.inl ⟨by rfl, ?_⟩) ?_ ?_
     rotate_left
     ·
      intro w'
      go_simp
      with_reducible rfl
     rotate_left
     ·
      simp only [Act.put, List.setIfInBounds_toArray, List.set_cons_zero, List.set_cons_succ, i64_w, i32_w]
      rfl
     refine done_ (xgB HT_.out (by kernel_rfl)) ?_
     try go_wp2
     go_meet
     case rel => exact ⟨_, (true), (by first | rfl | (simp; done) | (simp [*]; done)), H', ⟨by first | omega | exact Nat.le_refl _⟩, ⟨by (with_reducible repeat (first | refine xaG ?_ _ | refine xaJ ?_ | refine xaH ?_ _)); exact BK417.out⟩, ⟨by repeat (first | (with_reducible first | exact HB.out | apply xaB | apply xaA | apply xaC | refine xaF ?_ GE417.out) | exact HB.out)⟩⟩
    ·
     rw [if_neg c16] at H
     have c16b0 : decide (0 < a0_2) = false := decide_eq_false c16
     clear c16
     (first | rw [c16b0] | (simp only [i64_w, i32_w]; rw [c16b0]) | skip)
     replace H := Option.bind_eq_some_iff.mp H
     obtain ⟨t420, A180, H⟩ := H
     replace H : (xaV.j0 k (decide ((wrap64 (t420 + a0_2)) > 0)) a0_0 l0_1 a0_2) = some r := H
     have A18 := Aside0.mk A180;clear A180;have H' := Aside0.mk H;clear H
     try go_wp2
     have n0_ := Aside0.mk (xaJ BK417.out)
     have n1_ := Aside0.mk (xaC HB.out)
     clear BK417 HB;have BK417 := n0_;have HB := n1_;clear n0_ n1_
     refine start_ (n := 12) (S := fun w' => w'.cell? ⟨gb417, 0, none⟩ = some (.bool a0_0) ∧ w'.cell? ⟨gb417, 1, none⟩ = some (.slice A0_1 l0_1.length c0_1) ∧ w'.cell? ⟨gb417, 2, none⟩ = some (.int .i64 a0_2)) (ds := []) #[false, false, false, false, false, false, false, false, false, false, false, false] (by kernel_rfl) rfl rfl ⟨(xaE BK417.out 0).trans rfl, (xaE BK417.out 1).trans rfl, (xaE BK417.out 2).trans rfl⟩ (fun hHeld => ?_); refine xeR xaV.tab4 xaV.bits4 (fun HT_ HW_ => ?_)
     generalize w15.drew = w19 at BK417 HB hHeld ⊢
     refine pure_ (i := 0) (N := some 9) (v := ?_) (a' := ?_) #[true, false, false, false, false, false, false, false, false, false, false, false] rfl rfl (any_of HT_.out (by kernel_rfl)) (fun _ _ _ h => h) (Or.inl ⟨by rfl, ?_⟩) ?_ ?_
     rotate_left
     ·
      intro w'
      go_simp
      with_reducible rfl
     rotate_left
     ·
      simp only [Act.put, List.setIfInBounds_toArray, List.set_cons_zero, List.set_cons_succ, i64_w, i32_w]
      rfl
     refine take_ (i := 1) (N := some 10) (v := ?_) (a' := ?_) #[true, true, false, false, false, false, false, false, false, false, false, false] rfl rfl (xdY HT_.out HW_.out (by kernel_rfl)) (fun _ _ _ h => h) (Or.inl ⟨by rfl, ?_⟩) hHeld ?_ ?_
     rotate_left
     ·
      rintro w' ⟨s0, s1, s2⟩
      go_simp
      with_reducible rfl
     rotate_left
     ·
      simp only [Act.put, List.setIfInBounds_toArray, List.set_cons_zero, List.set_cons_succ, i64_w, i32_w]
      rfl
     refine pure_ (i := 2) (N := some 11) (v := ?_) (a' := ?_) #[true, true, true, false, false, false, false, false, false, false, false, false] rfl rfl (any_of HT_.out (by kernel_rfl)) (fun _ _ _ h => h) (Or.inl ⟨by rfl, ?_⟩) ?_ ?_
     rotate_left
     ·
      intro w'
      go_simp
      with_reducible rfl
     rotate_left
     ·
      simp only [Act.put, List.setIfInBounds_toArray, List.set_cons_zero, List.set_cons_succ, i64_w, i32_w]
      rfl
     refine pure_ (i := 3) (N := some 12) (v := ?_) (a' := ?_) #[true, true, true, true, false, false, false, false, false, false, false, false] rfl rfl (any_of HT_.out (by kernel_rfl)) (fun _ _ _ h => h) (Or.inl ⟨by rfl, ?_⟩) ?_ ?_
     rotate_left
     ·
      intro w'
      go_simp
      with_reducible rfl
     rotate_left
     ·
      simp only [Act.put, List.setIfInBounds_toArray, List.set_cons_zero, List.set_cons_succ, i64_w, i32_w]
      rfl
     refine pure_ (i := 4) (N := some 13) (v := ?_) (a' := ?_) #[true, true, true, true, true, false, false, false, false, false, false, false] rfl rfl (any_of HT_.out (by kernel_rfl)) (fun _ _ _ h => h) (Or.inl ⟨by rfl, ?_⟩) ?_ ?_
     rotate_left
     ·
      intro w'
      go_simp
      with_reducible rfl
     rotate_left
     ·
      simp only [Act.put, List.setIfInBounds_toArray, List.set_cons_zero, List.set_cons_succ, i64_w, i32_w]
      rfl
     refine pure_ (i := 7) (N := some 16) (v := ?_) (a' := ?_) #[true, true, true, true, true, false, false, true, false, false, false, false] rfl rfl (any_of HT_.out (by kernel_rfl)) (fun _ _ _ h => h) (Or.inl ⟨by rfl, ?_⟩) ?_ ?_
     rotate_left
     ·
      intro w'
      go_simp
      with_reducible rfl
     rotate_left
     ·
      simp only [Act.put, List.setIfInBounds_toArray, List.set_cons_zero, List.set_cons_succ, i64_w, i32_w]
      rfl
     refine take_ (i := 5) (N := some 14) (v := ?_) (a' := ?_) #[true, true, true, true, true, true, false, true, false, false, false, false] rfl rfl (xdY HT_.out HW_.out (by kernel_rfl)) (fun _ _ _ h => h) (Or.inl ⟨by rfl, ?_⟩) hHeld ?_ ?_
     rotate_left
     ·
      rintro w' ⟨s0, s1, s2⟩
      go_simp
      with_reducible rfl
     rotate_left
     ·
      simp only [Act.put, List.setIfInBounds_toArray, List.set_cons_zero, List.set_cons_succ, i64_w, i32_w]
      rfl
     refine take_ (i := 8) (N := some 17) (v := ?_) (a' := ?_) #[true, true, true, true, true, true, false, true, true, false, false, false] rfl rfl (xdY HT_.out HW_.out (by kernel_rfl)) (fun _ _ _ h => h) (Or.inl ⟨by rfl, ?_⟩) hHeld ?_ ?_
     rotate_left
     ·
      rintro w' ⟨s0, s1, s2⟩
      go_simp
      with_reducible rfl
     rotate_left
     ·
      simp only [Act.put, List.setIfInBounds_toArray, List.set_cons_zero, List.set_cons_succ, i64_w, i32_w]
      rfl
     refine one_ (i := 6) (N := some 15) #[true, true, true, true, true, true, true, true, true, false, false, false] rfl rfl (one_of HT_.out (by kernel_rfl)) (by decide) (fun K hK => ?_)
     refine goes_ Try.func100 (by kernel_rfl) rfl #[.slice A0_1 l0_1.length c0_1] (by rfl) rfl rfl (by (try simp only [List.map_toArray, List.map_cons, List.map_nil]); first | done | rfl | (simp only [List.length_drop, List.length_take]; rfl)) ?_
     with_reducible refine (xbC.calls k _ _ l0_1 t420 _ ?side1 ?side2 A18.out).mono ?_
     (case side1 => repeat (first | exact (Kd.xbT HR0_1.out HB.out) | (with_reducible refine Kd.xbF ?_ _) | (with_reducible refine Kd.xbE ?_ _) | (with_reducible refine Kd.C_drew ?_)))
     (case side2 => exact HC0_1.out)
     rintro e w' ⟨rfl, ⟨nd, rfl⟩⟩
     refine ⟨_, rfl, ?_⟩
     refine hK.out _ _ ⟨(xaE BK417.out 0).trans rfl, (xaE BK417.out 1).trans rfl, (xaE BK417.out 2).trans rfl⟩ (fun hHeld => ?_)
     clear hK K
     refine norm_ (a' := ?_) ?_ ?_
     rotate_left
     ·
      show Act.put _ (some 15) _ = _
      simp only [Act.put, List.setIfInBounds_toArray, List.set_cons_zero, List.set_cons_succ, i64_w, i32_w]
      rfl
     refine pure_ (i := 9) (N := some 18) (v := ?_) (a' := ?_) #[true, true, true, true, true, true, true, true, true, true, false, false] rfl rfl (any_of HT_.out (by kernel_rfl)) (fun _ _ _ h => h) (Or.inl ⟨by rfl, ?_⟩) ?_ ?_
     rotate_left
     ·
      intro w'
      go_simp
      with_reducible rfl
     rotate_left
     ·
      simp only [Act.put, List.setIfInBounds_toArray, List.set_cons_zero, List.set_cons_succ, i64_w, i32_w]
      rfl
     refine pure_ (i := 10) (N := some 19) (v := ?_) (a' := ?_) #[true, true, true, true, true, true, true, true, true, true, true, false] rfl rfl (any_of HT_.out (by kernel_rfl)) (fun _ _ _ h => h) (Or.inl ⟨by rfl, ?_⟩) ?_ ?_
     rotate_left
     ·
      intro w'
      go_simp
      with_reducible rfl
     rotate_left
     ·
      simp only [Act.put, List.setIfInBounds_toArray, List.set_cons_zero, List.set_cons_succ, i64_w, i32_w]
      rfl
     refine pure_ (i := 11) (N := some 20) (v := ?_) (a' := ?_) #[true, true, true, true, true, true, true, true, true, true, true, true] rfl rfl (any_of HT_.out (by kernel_rfl)) (fun _ _ _ h => h) (Or.inl ⟨by rfl, ?_⟩) ?_ ?_
     rotate_left
     ·
      intro w'
      go_simp
      with_reducible rfl
     rotate_left
     ·
      simp only [Act.put, List.setIfInBounds_toArray, List.set_cons_zero, List.set_cons_succ, i64_w, i32_w]
      rfl
     refine done_ (xgB HT_.out (by kernel_rfl)) ?_
     try go_wp2
     go_meet
     case rel => exact ⟨_, (decide ((wrap64 (t420 + a0_2)) > 0)), (by first | rfl | (simp; done) | (simp [*]; done)), H', ⟨by first | omega | exact Nat.le_refl _⟩, ⟨by (with_reducible repeat (first | refine xaG ?_ _ | refine xaJ ?_ | refine xaH ?_ _)); exact BK417.out⟩, ⟨by repeat (first | (with_reducible first | exact HB.out | apply xaB | apply xaA | apply xaC | refine xaF ?_ GE417.out) | exact HB.out)⟩⟩
   case rest =>
    clear HC10
    obtain ⟨kq, x20_9, rfl, HA, HJ9, BK417, HB⟩ := hcut
    cases kq with
    | zero => exact absurd HA.out (by simp [xaV.j0])
    | succ kj9 =>
     have H := HA.out;clear HA
     simp only [xaV.j0] at H
     by_cases c20 : x20_9 = true
     ·
      subst c20
      have H1 : ((xcL.f a0_0 9218868437227405312).bind fun t421 => (some t421)) = some r := by rw [if_pos rfl] at H; exact H
      clear H;have H := H1;clear H1;replace H := Option.bind_eq_some_iff.mp H
      obtain ⟨t421, A210, H⟩ := H
      replace H : (some t421) = some r := H
      have A21 := Aside0.mk A210;clear A210
      obtain rfl := Option.some.inj H
      have hcz22_0 : wc.cell? ⟨gb417, 0, none⟩ = some (.bool a0_0) := (xaE BK417.out 0).trans rfl
      have hcz22_1 : wc.cell? ⟨gb417, 1, none⟩ = some (.slice A0_1 l0_1.length c0_1) := (xaE BK417.out 1).trans rfl
      have hcz22_2 : wc.cell? ⟨gb417, 2, none⟩ = some (.int .i64 a0_2) := (xaE BK417.out 2).trans rfl
      have hfz22_0 := xaD BK417.out 0;have hfz22_1 := xaD BK417.out 1;have hfz22_2 := xaD BK417.out 2
      go_wp2_with (first | ((with_reducible refine xaQ (f := 130) rfl ?_); refine goesL_ (some 23) rfl rfl Try.func130 (by kernel_rfl) rfl #[.bool a0_0, .int .u64 9218868437227405312] rfl (by (try simp only [List.map_toArray, List.map_cons, List.map_nil]); first | done | rfl | (simp only [List.length_drop, List.length_take]; rfl)) ?_; (with_reducible refine (xcL.calls a0_0 9218868437227405312 t421 _ A21.out).mono ?_); rintro e w23 ⟨rfl, hb⟩; refine ⟨_, rfl, ?_⟩; have n0_ := Aside0.mk (xaY (g := gb417) (o := .cells #[.bool a0_0, .slice A0_1 l0_1.length c0_1, .int .i64 a0_2] 96 (0, 0)) (by (with_reducible repeat (first | refine xaG ?_ _ | refine xaJ ?_ | refine xaH ?_ _)); exact BK417.out) hb); have n1_ := Aside0.mk (xaP (by repeat (first | (with_reducible first | exact HB.out | apply xaB | apply xaA | apply xaC | refine xaF ?_ GE417.out) | exact HB.out)) hb); clear BK417; clear HB; have BK417 := n0_; have HB := n1_; clear n0_ n1_; (try clear hb); (try clear hb2); (try clear hk); (try clear hi)))
      go_ret
      exact ⟨by first | rfl | (simp [xaL, xaK] <;> rfl) | (simp [*, xaL, xaK] <;> rfl), by repeat (first | (with_reducible first | exact HB.out | apply xaB | apply xaA | apply xaC | refine xaF ?_ GE417.out) | exact HB.out)⟩
     ·
      replace c20 := Bool.eq_false_iff.mpr c20;subst c20
      have H1 : ((xcL.f a0_0 0).bind fun t422 => (some t422)) = some r := by rw [if_neg (show ¬ (false = true) by decide)] at H; exact H
      clear H;have H := H1;clear H1;replace H := Option.bind_eq_some_iff.mp H
      obtain ⟨t422, A240, H⟩ := H
      replace H : (some t422) = some r := H
      have A24 := Aside0.mk A240;clear A240
      obtain rfl := Option.some.inj H
      have hcz25_0 : wc.cell? ⟨gb417, 0, none⟩ = some (.bool a0_0) := (xaE BK417.out 0).trans rfl
      have hcz25_1 : wc.cell? ⟨gb417, 1, none⟩ = some (.slice A0_1 l0_1.length c0_1) := (xaE BK417.out 1).trans rfl
      have hcz25_2 : wc.cell? ⟨gb417, 2, none⟩ = some (.int .i64 a0_2) := (xaE BK417.out 2).trans rfl
      have hfz25_0 := xaD BK417.out 0;have hfz25_1 := xaD BK417.out 1;have hfz25_2 := xaD BK417.out 2
      go_wp2_with (first | ((with_reducible refine xaQ (f := 130) rfl ?_); refine goesL_ (some 26) rfl rfl Try.func130 (by kernel_rfl) rfl #[.bool a0_0, .int .u64 0] rfl (by (try simp only [List.map_toArray, List.map_cons, List.map_nil]); first | done | rfl | (simp only [List.length_drop, List.length_take]; rfl)) ?_; (with_reducible refine (xcL.calls a0_0 0 t422 _ A24.out).mono ?_); rintro e w26 ⟨rfl, hb⟩; refine ⟨_, rfl, ?_⟩; have n0_ := Aside0.mk (xaY (g := gb417) (o := .cells #[.bool a0_0, .slice A0_1 l0_1.length c0_1, .int .i64 a0_2] 96 (0, 0)) (by (with_reducible repeat (first | refine xaG ?_ _ | refine xaJ ?_ | refine xaH ?_ _)); exact BK417.out) hb); have n1_ := Aside0.mk (xaP (by repeat (first | (with_reducible first | exact HB.out | apply xaB | apply xaA | apply xaC | refine xaF ?_ GE417.out) | exact HB.out)) hb); clear BK417; clear HB; have BK417 := n0_; have HB := n1_; clear n0_ n1_; (try clear hb); (try clear hb2); (try clear hk); (try clear hi)))
      go_ret
      exact ⟨by first | rfl | (simp [xaL, xaK] <;> rfl) | (simp [*, xaL, xaK] <;> rfl), by repeat (first | (with_reducible first | exact HB.out | apply xaB | apply xaA | apply xaC | refine xaF ?_ GE417.out) | exact HB.out)⟩
  ·
   replace c9 := Bool.eq_false_iff.mpr c9;subst c9
   have H1 : ((xcZ.f k l0_1 a0_2 a1 53 (-1074)).bind fun t423 => ((xcL.f a0_0 t423).bind fun t424 => (some t424))) = some r := by rw [if_neg (show ¬ (false = true) by decide)] at H; exact H
   clear H;have H := H1;clear H1;replace H := Option.bind_eq_some_iff.mp H
   obtain ⟨t423, A270, H⟩ := H
   replace H : ((xcL.f a0_0 t423).bind fun t424 => (some t424)) = some r := H
   have A27 := Aside0.mk A270;clear A270;replace H := Option.bind_eq_some_iff.mp H
   obtain ⟨t424, A280, H⟩ := H
   replace H : (some t424) = some r := H
   have A28 := Aside0.mk A280;clear A280
   obtain rfl := Option.some.inj H
   go_enter Try.func103, Try.ntmps103
   try go_wp2_with (first | ((with_reducible refine xbM (N := 2) rfl ?_); refine xbJ ?hg (N := 2) ?hd (cs := #[.bool a0_0, .slice A0_1 l0_1.length c0_1, .int .i64 a0_2]) (t := 96) ?hr ?_; (case hd => rfl); (case hg => rfl); (case hr => first | (go_simp; done) | (go_simp; rfl)); intro gb417 hg w29 hbox hb; have n0_ := Aside0.mk (xaP (by repeat (first | (with_reducible first | exact HB.out | apply xaB | apply xaA | apply xaC) | exact HB.out)) hb); have n1_ := Aside0.mk (hbox); have n2_ := Aside0.mk ((by rw [hg]; exact (xaR (by repeat (first | (with_reducible first | exact HB.out | apply xaB | apply xaA | apply xaC) | exact HB.out))) : w.heap.size ≤ gb417)); have n3_ := Aside0.mk ((by rw [hg]; exact (xaR (by repeat (first | (with_reducible first | exact HB.out | apply xaB | apply xaA | apply xaC) | exact HB.out))) : w.heap.size ≤ gb417)); clear HB; have HB := n0_; have BK417 := n1_; have GW417 := n2_; have GE417 := n3_; clear n0_ n1_ n2_ n3_; clear hb hbox hg; have hcz30_0 : w29.cell? ⟨gb417, 0, none⟩ = some (.bool a0_0) := (xaE BK417.out 0).trans rfl; have hcz30_1 : w29.cell? ⟨gb417, 1, none⟩ = some (.slice A0_1 l0_1.length c0_1) := (xaE BK417.out 1).trans rfl; have hcz30_2 : w29.cell? ⟨gb417, 2, none⟩ = some (.int .i64 a0_2) := (xaE BK417.out 2).trans rfl; have hfz30_0 := xaD BK417.out 0; have hfz30_1 := xaD BK417.out 1; have hfz30_2 := xaD BK417.out 2) | ((with_reducible refine xaQ (f := 99) rfl ?_); refine goesL_ (some 6) rfl rfl Try.func99 (by kernel_rfl) rfl #[.agg #[.bool a0_0, .slice A0_1 l0_1.length c0_1, .int .i64 a0_2]] rfl (by (try simp only [List.map_toArray, List.map_cons, List.map_nil]); first | done | rfl | (simp only [List.length_drop, List.length_take]; rfl)) ?_; (with_reducible refine (xdB.calls a0_0 _ _ l0_1 a0_2 false _ ?side1 ?side2 A3.out).mono ?_); (case side1 => repeat (first | exact (Kd.xbT HR0_1.out HB.out) | (with_reducible refine Kd.xbF ?_ _) | (with_reducible refine Kd.xbE ?_ _) | (with_reducible refine Kd.C_drew ?_))); (case side2 => exact HC0_1.out); rintro e w31 ⟨rfl, hb⟩; refine ⟨_, rfl, ?_⟩; have n0_ := Aside0.mk (xaY (g := gb417) (o := .cells #[.bool a0_0, .slice A0_1 l0_1.length c0_1, .int .i64 a0_2] 96 (0, 0)) (by (with_reducible repeat (first | refine xaG ?_ _ | refine xaJ ?_ | refine xaH ?_ _)); exact BK417.out) hb); have n1_ := Aside0.mk (xaP (by repeat (first | (with_reducible first | exact HB.out | apply xaB | apply xaA | apply xaC | refine xaF ?_ GE417.out) | exact HB.out)) hb); clear BK417; clear HB; have BK417 := n0_; have HB := n1_; clear n0_ n1_; (try clear hb); (try clear hb2); (try clear hk); (try clear hi); have hcz32_0 : w31.cell? ⟨gb417, 0, none⟩ = some (.bool a0_0) := (xaE BK417.out 0).trans rfl; have hcz32_1 : w31.cell? ⟨gb417, 1, none⟩ = some (.slice A0_1 l0_1.length c0_1) := (xaE BK417.out 1).trans rfl; have hcz32_2 : w31.cell? ⟨gb417, 2, none⟩ = some (.int .i64 a0_2) := (xaE BK417.out 2).trans rfl; have hfz32_0 := xaD BK417.out 0; have hfz32_1 := xaD BK417.out 1; have hfz32_2 := xaD BK417.out 2) | ((with_reducible refine xaQ (f := 129) rfl ?_); refine goesL_ (some 8) rfl rfl Try.func129 (by kernel_rfl) rfl #[.agg #[.bool a0_0, .slice A0_1 l0_1.length c0_1, .int .i64 a0_2]] rfl (by (try simp only [List.map_toArray, List.map_cons, List.map_nil]); first | done | rfl | (simp only [List.length_drop, List.length_take]; rfl)) ?_; (with_reducible refine (xdM.calls k a0_0 _ _ l0_1 a0_2 false _ ?side1 ?side2 A8.out).mono ?_); (case side1 => repeat (first | exact (Kd.xbT HR0_1.out HB.out) | (with_reducible refine Kd.xbF ?_ _) | (with_reducible refine Kd.xbE ?_ _) | (with_reducible refine Kd.C_drew ?_))); (case side2 => exact HC0_1.out); rintro e w33 ⟨rfl, hb⟩; refine ⟨_, rfl, ?_⟩; have n0_ := Aside0.mk (xaY (g := gb417) (o := .cells #[.bool a0_0, .slice A0_1 l0_1.length c0_1, .int .i64 a0_2] 96 (0, 0)) (by (with_reducible repeat (first | refine xaG ?_ _ | refine xaJ ?_ | refine xaH ?_ _)); exact BK417.out) hb); have n1_ := Aside0.mk (xaP (by repeat (first | (with_reducible first | exact HB.out | apply xaB | apply xaA | apply xaC | refine xaF ?_ GE417.out) | exact HB.out)) hb); clear BK417; clear HB; have BK417 := n0_; have HB := n1_; clear n0_ n1_; (try clear hb); (try clear hb2); (try clear hk); (try clear hi)))
   have n0_ := Aside0.mk (xaJ BK417.out)
   have n1_ := Aside0.mk (xaC HB.out)
   clear BK417 HB;have BK417 := n0_;have HB := n1_;clear n0_ n1_
   refine start_ (n := 10) (S := fun w' => w'.cell? ⟨gb417, 0, none⟩ = some (.bool a0_0) ∧ w'.cell? ⟨gb417, 1, none⟩ = some (.slice A0_1 l0_1.length c0_1) ∧ w'.cell? ⟨gb417, 2, none⟩ = some (.int .i64 a0_2)) (ds := []) #[false, false, false, false, false, false, false, false, false, false] (by kernel_rfl) rfl rfl ⟨(xaE BK417.out 0).trans rfl, (xaE BK417.out 1).trans rfl, (xaE BK417.out 2).trans rfl⟩ (fun hHeld => ?_); refine xeR xaV.tab7 xaV.bits7 (fun HT_ HW_ => ?_)
   generalize w33.drew = w34 at BK417 HB hHeld ⊢
   refine pure_ (i := 0) (N := some 27) (v := ?_) (a' := ?_) #[true, false, false, false, false, false, false, false, false, false] rfl rfl (any_of HT_.out (by kernel_rfl)) (fun _ _ _ h => h) (Or.inl ⟨by rfl, ?_⟩) ?_ ?_
   rotate_left
   ·
    intro w'
    go_simp
    with_reducible rfl
   rotate_left
   ·
    simp only [Act.put, List.setIfInBounds_toArray, List.set_cons_zero, List.set_cons_succ, i64_w, i32_w]
    rfl
   refine pure_ (i := 2) (N := some 29) (v := ?_) (a' := ?_) #[true, false, true, false, false, false, false, false, false, false] rfl rfl (any_of HT_.out (by kernel_rfl)) (fun _ _ _ h => h) (Or.inl ⟨by rfl, ?_⟩) ?_ ?_
   rotate_left
   ·
    intro w'
    go_simp
    with_reducible rfl
   rotate_left
   ·
    simp only [Act.put, List.setIfInBounds_toArray, List.set_cons_zero, List.set_cons_succ, i64_w, i32_w]
    rfl
   refine pure_ (i := 4) (N := some 31) (v := ?_) (a' := ?_) #[true, false, true, false, true, false, false, false, false, false] rfl rfl (any_of HT_.out (by kernel_rfl)) (fun _ _ _ h => h) (Or.inl ⟨by rfl, ?_⟩) ?_ ?_
   rotate_left
   ·
    intro w'
    go_simp
    with_reducible rfl
   rotate_left
   ·
    simp only [Act.put, List.setIfInBounds_toArray, List.set_cons_zero, List.set_cons_succ, i64_w, i32_w]
    rfl
   refine pure_ (i := 6) (N := some 33) (v := ?_) (a' := ?_) #[true, false, true, false, true, false, true, false, false, false] rfl rfl (any_of HT_.out (by kernel_rfl)) (fun _ _ _ h => h) (Or.inl ⟨by rfl, ?_⟩) ?_ ?_
   rotate_left
   ·
    intro w'
    go_simp
    with_reducible rfl
   rotate_left
   ·
    simp only [Act.put, List.setIfInBounds_toArray, List.set_cons_zero, List.set_cons_succ, i64_w, i32_w]
    rfl
   refine take_ (i := 1) (N := some 28) (v := ?_) (a' := ?_) #[true, true, true, false, true, false, true, false, false, false] rfl rfl (xdY HT_.out HW_.out (by kernel_rfl)) (fun _ _ _ h => h) (Or.inl ⟨by rfl, ?_⟩) hHeld ?_ ?_
   rotate_left
   ·
    rintro w' ⟨s0, s1, s2⟩
    go_simp
    with_reducible rfl
   rotate_left
   ·
    simp only [Act.put, List.setIfInBounds_toArray, List.set_cons_zero, List.set_cons_succ, i64_w, i32_w]
    rfl
   refine take_ (i := 3) (N := some 30) (v := ?_) (a' := ?_) #[true, true, true, true, true, false, true, false, false, false] rfl rfl (xdY HT_.out HW_.out (by kernel_rfl)) (fun _ _ _ h => h) (Or.inl ⟨by rfl, ?_⟩) hHeld ?_ ?_
   rotate_left
   ·
    rintro w' ⟨s0, s1, s2⟩
    go_simp
    with_reducible rfl
   rotate_left
   ·
    simp only [Act.put, List.setIfInBounds_toArray, List.set_cons_zero, List.set_cons_succ, i64_w, i32_w]
    rfl
   refine take_ (i := 5) (N := some 32) (v := ?_) (a' := ?_) #[true, true, true, true, true, true, true, false, false, false] rfl rfl (xdY HT_.out HW_.out (by kernel_rfl)) (fun _ _ _ h => h) (Or.inl ⟨by rfl, ?_⟩) hHeld ?_ ?_
   rotate_left
   ·
    rintro w' ⟨s0, s1, s2⟩
    go_simp
    with_reducible rfl
   rotate_left
   ·
    simp only [Act.put, List.setIfInBounds_toArray, List.set_cons_zero, List.set_cons_succ, i64_w, i32_w]
    rfl
   refine one_ (i := 7) (N := some 34) #[true, true, true, true, true, true, true, true, false, false] rfl rfl (one_of HT_.out (by kernel_rfl)) (by decide) (fun K hK => ?_)
   refine goes_ Try.func131 (by kernel_rfl) rfl #[.slice A0_1 l0_1.length c0_1, .int .i64 a0_2, .bool a1, .int .i64 53, .int .i64 (-1074)] (by rfl) rfl rfl (by (try simp only [List.map_toArray, List.map_cons, List.map_nil]); first | done | rfl | (simp only [List.length_drop, List.length_take]; rfl)) ?_
   with_reducible refine (xcZ.calls k _ _ l0_1 a0_2 a1 53 (-1074) t423 _ ?side1 ?side2 A27.out).mono ?_
   (case side1 => repeat (first | exact (Kd.xbT HR0_1.out HB.out) | (with_reducible refine Kd.xbF ?_ _) | (with_reducible refine Kd.xbE ?_ _) | (with_reducible refine Kd.C_drew ?_)))
   (case side2 => exact HC0_1.out)
   rintro e w35 ⟨rfl, hb⟩
   refine ⟨_, rfl, ?_⟩
   have n0_ := Aside0.mk (xaY (g := gb417) (o := .cells #[.bool a0_0, .slice A0_1 l0_1.length c0_1, .int .i64 a0_2] 96 (0, 0)) (by (with_reducible repeat (first | refine xaG ?_ _ | refine xaJ ?_ | refine xaH ?_ _)); exact BK417.out) hb)
   have n1_ := Aside0.mk (xaP (by repeat (first | (with_reducible first | exact HB.out | apply xaB | apply xaA | apply xaC | refine xaF ?_ GE417.out) | exact HB.out)) hb)
   clear BK417 HB;have BK417 := n0_;have HB := n1_;clear n0_ n1_;(try clear hb);(try clear hb2);(try clear hk);(try clear hi)
   refine hK.out _ _ ⟨(xaE BK417.out 0).trans rfl, (xaE BK417.out 1).trans rfl, (xaE BK417.out 2).trans rfl⟩ (fun hHeld => ?_)
   clear hK K
   refine norm_ (a' := ?_) ?_ ?_
   rotate_left
   ·
    show Act.put _ (some 34) _ = _
    simp only [Act.put, List.setIfInBounds_toArray, List.set_cons_zero, List.set_cons_succ, i64_w, i32_w]
    rfl
   refine one_ (i := 8) (N := some 35) #[true, true, true, true, true, true, true, true, true, false] rfl rfl (one_of HT_.out (by kernel_rfl)) (by decide) (fun K hK => ?_)
   refine goes_ Try.func130 (by kernel_rfl) rfl #[.bool a0_0, .int .u64 t423] (by rfl) rfl rfl (by (try simp only [List.map_toArray, List.map_cons, List.map_nil]); first | done | rfl | (simp only [List.length_drop, List.length_take]; rfl)) ?_
   with_reducible refine (xcL.calls a0_0 t423 t424 _ A28.out).mono ?_
   rintro e w36 ⟨rfl, hb⟩
   refine ⟨_, rfl, ?_⟩
   have n0_ := Aside0.mk (xaY (g := gb417) (o := .cells #[.bool a0_0, .slice A0_1 l0_1.length c0_1, .int .i64 a0_2] 96 (0, 0)) (by (with_reducible repeat (first | refine xaG ?_ _ | refine xaJ ?_ | refine xaH ?_ _)); exact BK417.out) hb)
   have n1_ := Aside0.mk (xaP (by repeat (first | (with_reducible first | exact HB.out | apply xaB | apply xaA | apply xaC | refine xaF ?_ GE417.out) | exact HB.out)) hb)
   clear BK417 HB;have BK417 := n0_;have HB := n1_;clear n0_ n1_;(try clear hb);(try clear hb2);(try clear hk);(try clear hi)
   refine hK.out _ _ ⟨(xaE BK417.out 0).trans rfl, (xaE BK417.out 1).trans rfl, (xaE BK417.out 2).trans rfl⟩ (fun hHeld => ?_)
   clear hK K
   refine norm_ (a' := ?_) ?_ ?_
   rotate_left
   ·
    show Act.put _ (some 35) _ = _
    simp only [Act.put, List.setIfInBounds_toArray, List.set_cons_zero, List.set_cons_succ, i64_w, i32_w]
    rfl
   refine pure_ (i := 9) (N := some 4) (v := ?_) (a' := ?_) #[true, true, true, true, true, true, true, true, true, true] rfl rfl (any_of HT_.out (by kernel_rfl)) (fun _ _ _ h => h) (Or.inl ⟨by rfl, ?_⟩) ?_ ?_
   rotate_left
   ·
    intro w'
    go_simp
    with_reducible rfl
   rotate_left
   ·
    simp only [Act.put, List.setIfInBounds_toArray, List.set_cons_zero, List.set_cons_succ, i64_w, i32_w]
    rfl
   refine done_ (xgB HT_.out (by kernel_rfl)) ?_
   try go_wp2
   go_ret
   exact ⟨by first | rfl | (simp [xaL, xaK] <;> rfl) | (simp [*, xaL, xaK] <;> rfl), by repeat (first | (with_reducible first | exact HB.out | apply xaB | apply xaA | apply xaC | refine xaF ?_ GE417.out) | exact HB.out)⟩
end Go.Proofs.Ytoncignjcgjhhaa.Q
