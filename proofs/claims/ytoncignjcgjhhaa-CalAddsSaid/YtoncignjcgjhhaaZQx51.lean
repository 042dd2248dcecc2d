/- Contracts of functions of the seat's program: each Go function's Lean function and its walk, written by a program of this session over the kit's print. Not trusted: Lean checks it. -/
import Derived.Test.YtoncignjcgjhhaaZGA
import Derived.Test.YtoncignjcgjhhaaZGF
import Derived.Test.YtoncignjcgjhhaaZGG
import Derived.Test.YtoncignjcgjhhaaZGK
import Derived.Test.YtoncignjcgjhhaaZGM
set_option linter.unusedVariables false
set_option linter.unusedSimpArgs false
namespace Go.Proofs.Ytoncignjcgjhhaa.Q
open Go.RowKit Go.Proofs.YtoncignjcgjhhaaW.PrintWords Go.Proofs.YtoncignjcgjhhaaW.PrintLast Go.Proofs.YtoncignjcgjhhaaW.PrintMore
attribute [local go_sem] max2_int min2_int max_two min_two max_three min_three max_four min_four   -- for this text's walks alone
set_option linter.unusedVariables false
set_option linter.unusedSimpArgs false

/-! ### tenorref6_Adjust: function 39 -/
mutual
def tenorref6_Adjust.j0 : Nat → Int → Int → Int → Bool → Int → List (S63) → Option (Int × Int)
  | 0, _, _, _, _, _, _ => none
  | k + 1, x1, x2, x10, x35, x523000, x523001 => if x35 = true then (tenorref6_Adjust.j1 k x1 x2 (-1) x523000 x523001) else (tenorref6_Adjust.j1 k x1 x2 x10 x523000 x523001)
def tenorref6_Adjust.j1 : Nat → Int → Int → Int → Int → List (S63) → Option (Int × Int)
  | 0, _, _, _, _, _ => none
  | k + 1, x1, x2, x10, x523000, x523001 => (tenorref6_search.f k x523000 x523001 x1 x10).bind fun bt527 => (if x2 = 3 then (if bt527.2 = true then ((tenorref6_month.f k bt527.1).bind fun t529 => ((tenorref6_month.f k x1).bind fun t530 => (tenorref6_Adjust.j2 k x1 x10 bt527.1 bt527.2 (t529 != t530) x523000 x523001))) else (tenorref6_Adjust.j2 k x1 x10 bt527.1 bt527.2 true x523000 x523001)) else (if x2 = 4 then (if bt527.2 = true then ((tenorref6_month.f k bt527.1).bind fun t531 => ((tenorref6_month.f k x1).bind fun t532 => (tenorref6_Adjust.j2 k x1 x10 bt527.1 bt527.2 (t531 != t532) x523000 x523001))) else (tenorref6_Adjust.j2 k x1 x10 bt527.1 bt527.2 true x523000 x523001)) else (tenorref6_Adjust.j2 k x1 x10 bt527.1 bt527.2 false x523000 x523001)))
def tenorref6_Adjust.j2 : Nat → Int → Int → Int → Bool → Bool → Int → List (S63) → Option (Int × Int)
  | 0, _, _, _, _, _, _, _ => none
  | k + 1, x1, x10, x11, x12, x59, x523000, x523001 => if x59 = true then ((tenorref6_search.f k x523000 x523001 x1 (wrap64 (-x10))).bind fun bt533 => (if bt533.2 = true then (some (bt533.1, 0)) else (some (0, 51)))) else (if x12 = true then (some (x11, 0)) else (some (0, 51)))
end
def tenorref6_Adjust.f (k : Nat) (a0_0 : Int) (l0_1 : List (S63)) (a1 : Int) (a2 : Int) : Option (Int × Int) := (tenorref6_Check.f k a0_0 l0_1).bind fun bt523 => (if bt523.1 = 0 then ((tenorref6_in.f a2 0 4).bind fun t525 => (if t525 = true then ((tenorref6_isDay.f a1).bind fun t526 => (if t526 = true then (if a2 = 0 then (some (a1, 0)) else (if a2 = 2 then (tenorref6_Adjust.j0 k a1 a2 1 true a0_0 l0_1) else (tenorref6_Adjust.j0 k a1 a2 1 (a2 == 4) a0_0 l0_1))) else (some (0, 51)))) else (some (0, 90)))) else (some (0, bt523.1)))
theorem tenorref6_Adjust.mono_l : ∀ k, (∀ y0 y1 y2 y3 y4 y5, LeO (tenorref6_Adjust.j0 k y0 y1 y2 y3 y4 y5) (tenorref6_Adjust.j0 (k + 1) y0 y1 y2 y3 y4 y5)) ∧ (∀ y0 y1 y2 y3 y4, LeO (tenorref6_Adjust.j1 k y0 y1 y2 y3 y4) (tenorref6_Adjust.j1 (k + 1) y0 y1 y2 y3 y4)) ∧ (∀ y0 y1 y2 y3 y4 y5 y6, LeO (tenorref6_Adjust.j2 k y0 y1 y2 y3 y4 y5 y6) (tenorref6_Adjust.j2 (k + 1) y0 y1 y2 y3 y4 y5 y6))
  | 0 => ⟨fun _ _ _ _ _ _ r h => by simp [tenorref6_Adjust.j0] at h, fun _ _ _ _ _ r h => by simp [tenorref6_Adjust.j1] at h, fun _ _ _ _ _ _ _ r h => by simp [tenorref6_Adjust.j2] at h⟩
  | k + 1 => by
    obtain ⟨ih0, ih1, ih2⟩ := tenorref6_Adjust.mono_l k
    refine ⟨?_, ?_, ?_⟩
    · intro y0 y1 y2 y3 y4 y5
      unfold tenorref6_Adjust.j0
      repeat' first
      | (with_reducible exact ih0 _ _ _ _ _ _)
      | (with_reducible exact ih1 _ _ _ _ _)
      | (with_reducible exact ih2 _ _ _ _ _ _ _)
      | (with_reducible exact tenorref6_Check.mono _ _ _)
      | (with_reducible exact tenorref6_month.mono _ _)
      | (with_reducible exact tenorref6_search.mono _ _ _ _ _)
      | (with_reducible exact LeO.refl _)
      | (with_reducible exact LeO.none _)
      | (with_reducible refine LeO.ite ?_ ?_)
      | (with_reducible refine LeO.bind ?_ (fun _ => ?_))
      | exact ih0 _ _ _ _ _ _
      | exact ih1 _ _ _ _ _
      | exact ih2 _ _ _ _ _ _ _
      | exact tenorref6_Check.mono _ _ _
      | exact tenorref6_month.mono _ _
      | exact tenorref6_search.mono _ _ _ _ _
      | exact LeO.none _
      | refine LeO.ite ?_ ?_
      | refine LeO.bind ?_ (fun _ => ?_)
    · intro y0 y1 y2 y3 y4
      unfold tenorref6_Adjust.j1
      repeat' first
      | (with_reducible exact ih0 _ _ _ _ _ _)
      | (with_reducible exact ih1 _ _ _ _ _)
      | (with_reducible exact ih2 _ _ _ _ _ _ _)
      | (with_reducible exact tenorref6_Check.mono _ _ _)
      | (with_reducible exact tenorref6_month.mono _ _)
      | (with_reducible exact tenorref6_search.mono _ _ _ _ _)
      | (with_reducible exact LeO.refl _)
      | (with_reducible exact LeO.none _)
      | (with_reducible refine LeO.ite ?_ ?_)
      | (with_reducible refine LeO.bind ?_ (fun _ => ?_))
      | exact ih0 _ _ _ _ _ _
      | exact ih1 _ _ _ _ _
      | exact ih2 _ _ _ _ _ _ _
      | exact tenorref6_Check.mono _ _ _
      | exact tenorref6_month.mono _ _
      | exact tenorref6_search.mono _ _ _ _ _
      | exact LeO.none _
      | refine LeO.ite ?_ ?_
      | refine LeO.bind ?_ (fun _ => ?_)
    · intro y0 y1 y2 y3 y4 y5 y6
      unfold tenorref6_Adjust.j2
      repeat' first
      | (with_reducible exact ih0 _ _ _ _ _ _)
      | (with_reducible exact ih1 _ _ _ _ _)
      | (with_reducible exact ih2 _ _ _ _ _ _ _)
      | (with_reducible exact tenorref6_Check.mono _ _ _)
      | (with_reducible exact tenorref6_month.mono _ _)
      | (with_reducible exact tenorref6_search.mono _ _ _ _ _)
      | (with_reducible exact LeO.refl _)
      | (with_reducible exact LeO.none _)
      | (with_reducible refine LeO.ite ?_ ?_)
      | (with_reducible refine LeO.bind ?_ (fun _ => ?_))
      | exact ih0 _ _ _ _ _ _
      | exact ih1 _ _ _ _ _
      | exact ih2 _ _ _ _ _ _ _
      | exact tenorref6_Check.mono _ _ _
      | exact tenorref6_month.mono _ _
      | exact tenorref6_search.mono _ _ _ _ _
      | exact LeO.none _
      | refine LeO.ite ?_ ?_
      | refine LeO.bind ?_ (fun _ => ?_)
theorem tenorref6_Adjust.mono : ∀ a0 a1 a2 a3 k, LeO (tenorref6_Adjust.f k a0 a1 a2 a3) (tenorref6_Adjust.f (k + 1) a0 a1 a2 a3) := by
  intro a0 a1 a2 a3 k
  obtain ⟨ih0, ih1, ih2⟩ := tenorref6_Adjust.mono_l k
  unfold tenorref6_Adjust.f
  repeat' first
      | (with_reducible exact ih0 _ _ _ _ _ _)
      | (with_reducible exact ih1 _ _ _ _ _)
      | (with_reducible exact ih2 _ _ _ _ _ _ _)
      | (with_reducible exact tenorref6_Check.mono _ _ _)
      | (with_reducible exact tenorref6_month.mono _ _)
      | (with_reducible exact tenorref6_search.mono _ _ _ _ _)
      | (with_reducible exact LeO.refl _)
      | (with_reducible exact LeO.none _)
      | (with_reducible refine LeO.ite ?_ ?_)
      | (with_reducible refine LeO.bind ?_ (fun _ => ?_))
      | exact ih0 _ _ _ _ _ _
      | exact ih1 _ _ _ _ _
      | exact ih2 _ _ _ _ _ _ _
      | exact tenorref6_Check.mono _ _ _
      | exact tenorref6_month.mono _ _
      | exact tenorref6_search.mono _ _ _ _ _
      | exact LeO.none _
      | refine LeO.ite ?_ ?_
      | refine LeO.bind ?_ (fun _ => ?_)
set_option maxHeartbeats 8000000 in
set_option maxRecDepth 100000 in
theorem tenorref6_Adjust.calls (k : Nat) (a0_0 : Int) (A0_1 : Option Addr) (c0_1 : Nat) (l0_1 : List (S63)) (a1 : Int) (a2 : Int) (r1 : Int) (r2 : Int) (w : World) (hr0_1 : Kd.C k63 w A0_1 l0_1.length l0_1) (hc0_1 : l0_1.length ≤ c0_1) (h : tenorref6_Adjust.f k a0_0 l0_1 a1 a2 = some (r1, r2)) :
    Calls Try.prog 39 #[.agg #[.int .i64 a0_0, .slice A0_1 l0_1.length c0_1], .int .i64 a1, .int .i64 a2] w fun e w' => e = .returned (.tuple #[.int .i64 r1, .int .i64 r2]) ∧ Below w.heap.size w w' := by
  have hu24 := Try.underlying24
  have HR0_1 := Aside0.mk hr0_1
  have HC0_1 := Aside0.mk hc0_1
  clear hr0_1 hc0_1
  have HB := Aside0.mk (Below.refl w.heap.size w)
  have H : ((tenorref6_Check.f k a0_0 l0_1).bind fun bt523 => (if bt523.1 = 0 then ((tenorref6_in.f a2 0 4).bind fun t525 => (if t525 = true then ((tenorref6_isDay.f a1).bind fun t526 => (if t526 = true then (if a2 = 0 then (some (a1, 0)) else (if a2 = 2 then (tenorref6_Adjust.j0 k a1 a2 1 true a0_0 l0_1) else (tenorref6_Adjust.j0 k a1 a2 1 (a2 == 4) a0_0 l0_1))) else (some (0, 51)))) else (some (0, 90)))) else (some (0, bt523.1)))) = some (r1, r2) := h
  clear h
  replace H := Option.bind_eq_some_iff.mp H
  obtain ⟨⟨t523, t524⟩, A40, H⟩ := H
  replace H : (if t523 = 0 then ((tenorref6_in.f a2 0 4).bind fun t525 => (if t525 = true then ((tenorref6_isDay.f a1).bind fun t526 => (if t526 = true then (if a2 = 0 then (some (a1, 0)) else (if a2 = 2 then (tenorref6_Adjust.j0 k a1 a2 1 true a0_0 l0_1) else (tenorref6_Adjust.j0 k a1 a2 1 (a2 == 4) a0_0 l0_1))) else (some (0, 51)))) else (some (0, 90)))) else (some (0, t523))) = some (r1, r2) := H
  have A4 := Aside0.mk A40
  clear A40
  by_cases c5 : t523 = 0
  · rw [if_pos c5] at H
    have c5b0 : (t523 == 0) = true := beq_iff_eq.mpr c5
    have c5b1 : (t523 != 0) = false := bne_eq_false_iff_eq.mpr c5
    clear c5
    replace H := Option.bind_eq_some_iff.mp H
    obtain ⟨t525, A60, H⟩ := H
    replace H : (if t525 = true then ((tenorref6_isDay.f a1).bind fun t526 => (if t526 = true then (if a2 = 0 then (some (a1, 0)) else (if a2 = 2 then (tenorref6_Adjust.j0 k a1 a2 1 true a0_0 l0_1) else (tenorref6_Adjust.j0 k a1 a2 1 (a2 == 4) a0_0 l0_1))) else (some (0, 51)))) else (some (0, 90))) = some (r1, r2) := H
    have A6 := Aside0.mk A60
    clear A60
    by_cases c7 : t525 = true
    · subst c7
      have H1 : ((tenorref6_isDay.f a1).bind fun t526 => (if t526 = true then (if a2 = 0 then (some (a1, 0)) else (if a2 = 2 then (tenorref6_Adjust.j0 k a1 a2 1 true a0_0 l0_1) else (tenorref6_Adjust.j0 k a1 a2 1 (a2 == 4) a0_0 l0_1))) else (some (0, 51)))) = some (r1, r2) := by rw [if_pos rfl] at H; exact H
      clear H
      have H := H1
      clear H1
      replace H := Option.bind_eq_some_iff.mp H
      obtain ⟨t526, A80, H⟩ := H
      replace H : (if t526 = true then (if a2 = 0 then (some (a1, 0)) else (if a2 = 2 then (tenorref6_Adjust.j0 k a1 a2 1 true a0_0 l0_1) else (tenorref6_Adjust.j0 k a1 a2 1 (a2 == 4) a0_0 l0_1))) else (some (0, 51))) = some (r1, r2) := H
      have A8 := Aside0.mk A80
      clear A80
      by_cases c9 : t526 = true
      · subst c9
        have H1 : (if a2 = 0 then (some (a1, 0)) else (if a2 = 2 then (tenorref6_Adjust.j0 k a1 a2 1 true a0_0 l0_1) else (tenorref6_Adjust.j0 k a1 a2 1 (a2 == 4) a0_0 l0_1))) = some (r1, r2) := by rw [if_pos rfl] at H; exact H
        clear H
        have H := H1
        clear H1
        by_cases c10 : a2 = 0
        · rw [if_pos c10] at H
          have c10b0 : (a2 == 0) = true := beq_iff_eq.mpr c10
          have c10b1 : (a2 != 0) = false := bne_eq_false_iff_eq.mpr c10
          clear c10
          simp only [Option.some.injEq, Prod.mk.injEq] at H
          obtain ⟨rfl, rfl⟩ := H
          go_enter Try.func39, Try.ntmps39
          go_wp2_with (first | ((with_reducible refine gate_dst (N := 3) rfl ?_); refine box_event ?hg (N := 3) ?hd (cs := #[.int .i64 a0_0, .slice A0_1 l0_1.length c0_1]) (t := 24) ?hr ?_; (case hd => rfl); (case hg => rfl); (case hr => first | (go_simp; done) | (go_simp; rfl)); intro gb522 hg w11 hbox hb; have n0_ := Aside0.mk (below_step (by repeat (first | (with_reducible first | exact HB.out | apply below_alloc | apply pw_below_drewN | apply below_drew1) | exact HB.out)) hb); have n1_ := Aside0.mk (hbox); have n2_ := Aside0.mk ((by rw [hg]; exact (below_size (by repeat (first | (with_reducible first | exact HB.out | apply below_alloc | apply pw_below_drewN | apply below_drew1) | exact HB.out))) : w.heap.size ≤ gb522)); have n3_ := Aside0.mk ((by rw [hg]; exact (below_size (by repeat (first | (with_reducible first | exact HB.out | apply below_alloc | apply pw_below_drewN | apply below_drew1) | exact HB.out))) : w.heap.size ≤ gb522)); clear HB; have HB := n0_; have BK522 := n1_; have GW522 := n2_; have GE522 := n3_; clear n0_ n1_ n2_ n3_; clear hb hbox hg; have hcz12_0 : w11.cell? ⟨gb522, 0, none⟩ = some (.int .i64 a0_0) := (blk_cell BK522.out 0).trans rfl; have hcz12_1 : w11.cell? ⟨gb522, 1, none⟩ = some (.slice A0_1 l0_1.length c0_1) := (blk_cell BK522.out 1).trans rfl; have hfz12_0 := blk_frozen BK522.out 0; have hfz12_1 := blk_frozen BK522.out 1) | ((with_reducible refine gate_callee (f := 45) rfl ?_); refine goesL_ (some 15) rfl rfl Try.func45 (by kernel_rfl) rfl #[.agg #[.int .i64 a0_0, .slice A0_1 l0_1.length c0_1]] rfl (by (try simp only [List.map_toArray, List.map_cons, List.map_nil]); first | done | rfl | (simp only [List.length_drop, List.length_take]; rfl)) ?_; (with_reducible refine (tenorref6_Check.calls k a0_0 _ _ l0_1 t523 t524 _ ?side1 ?side2 A4.out).mono ?_); (case side1 => repeat (first | exact (Kd.C_below HR0_1.out HB.out) | (with_reducible refine Kd.C_alloc ?_ _) | (with_reducible refine Kd.C_drewN ?_ _) | (with_reducible refine Kd.C_drew ?_))); (case side2 => exact HC0_1.out); rintro e w13 ⟨rfl, hb⟩; refine ⟨_, rfl, ?_⟩; have n0_ := Aside0.mk (blk_below (g := gb522) (o := .cells #[.int .i64 a0_0, .slice A0_1 l0_1.length c0_1] 24 (0, 0)) (by (with_reducible repeat (first | refine blk_drewN ?_ _ | refine blk_drew ?_ | refine blk_alloc ?_ _)); exact BK522.out) hb); have n1_ := Aside0.mk (below_step (by repeat (first | (with_reducible first | exact HB.out | apply below_alloc | apply pw_below_drewN | apply below_drew1 | refine below_set ?_ GE522.out) | exact HB.out)) hb); clear BK522; clear HB; have BK522 := n0_; have HB := n1_; clear n0_ n1_; (try clear hb); (try clear hb2); (try clear hk); (try clear hi)) | ((with_reducible refine gate_callee (f := 79) rfl ?_); refine goesL_ (some 22) rfl rfl Try.func79 (by kernel_rfl) rfl #[.int .i64 a2, .int .i64 0, .int .i64 4] rfl (by (try simp only [List.map_toArray, List.map_cons, List.map_nil]); first | done | rfl | (simp only [List.length_drop, List.length_take]; rfl)) ?_; (with_reducible refine (tenorref6_in.calls a2 0 4 true _ A6.out).mono ?_); rintro e w' ⟨rfl, ⟨nd, rfl⟩⟩; refine ⟨_, rfl, ?_⟩) | ((with_reducible refine gate_callee (f := 80) rfl ?_); refine goesL_ (some 25) rfl rfl Try.func80 (by kernel_rfl) rfl #[.int .i64 a1] rfl (by (try simp only [List.map_toArray, List.map_cons, List.map_nil]); first | done | rfl | (simp only [List.length_drop, List.length_take]; rfl)) ?_; (with_reducible refine (tenorref6_isDay.calls a1 true _ A8.out).mono ?_); rintro e w' ⟨rfl, ⟨nd, rfl⟩⟩; refine ⟨_, rfl, ?_⟩))
          go_ret2
          exact ⟨by first | rfl | (simp [errW_none, errW_some] <;> rfl) | (simp [*, errW_none, errW_some] <;> rfl), by repeat (first | (with_reducible first | exact HB.out | apply below_alloc | apply pw_below_drewN | apply below_drew1 | refine below_set ?_ GE522.out) | exact HB.out)⟩
        · rw [if_neg c10] at H
          have c10b0 : (a2 == 0) = false := beq_eq_false_iff_ne.mpr c10
          have c10b1 : (a2 != 0) = true := bne_iff_ne.mpr c10
          have HC14 := Aside0.mk H
          clear H
          go_enter Try.func39, Try.ntmps39
          go_upto_region 11 with (first | ((with_reducible refine gate_dst (N := 3) rfl ?_); refine box_event ?hg (N := 3) ?hd (cs := #[.int .i64 a0_0, .slice A0_1 l0_1.length c0_1]) (t := 24) ?hr ?_; (case hd => rfl); (case hg => rfl); (case hr => first | (go_simp; done) | (go_simp; rfl)); intro gb522 hg w15 hbox hb; have n0_ := Aside0.mk (below_step (by repeat (first | (with_reducible first | exact HB.out | apply below_alloc | apply pw_below_drewN | apply below_drew1) | exact HB.out)) hb); have n1_ := Aside0.mk (hbox); have n2_ := Aside0.mk ((by rw [hg]; exact (below_size (by repeat (first | (with_reducible first | exact HB.out | apply below_alloc | apply pw_below_drewN | apply below_drew1) | exact HB.out))) : w.heap.size ≤ gb522)); have n3_ := Aside0.mk ((by rw [hg]; exact (below_size (by repeat (first | (with_reducible first | exact HB.out | apply below_alloc | apply pw_below_drewN | apply below_drew1) | exact HB.out))) : w.heap.size ≤ gb522)); clear HB; have HB := n0_; have BK522 := n1_; have GW522 := n2_; have GE522 := n3_; clear n0_ n1_ n2_ n3_; clear hb hbox hg; have hcz16_0 : w15.cell? ⟨gb522, 0, none⟩ = some (.int .i64 a0_0) := (blk_cell BK522.out 0).trans rfl; have hcz16_1 : w15.cell? ⟨gb522, 1, none⟩ = some (.slice A0_1 l0_1.length c0_1) := (blk_cell BK522.out 1).trans rfl; have hfz16_0 := blk_frozen BK522.out 0; have hfz16_1 := blk_frozen BK522.out 1) | ((with_reducible refine gate_callee (f := 45) rfl ?_); refine goesL_ (some 15) rfl rfl Try.func45 (by kernel_rfl) rfl #[.agg #[.int .i64 a0_0, .slice A0_1 l0_1.length c0_1]] rfl (by (try simp only [List.map_toArray, List.map_cons, List.map_nil]); first | done | rfl | (simp only [List.length_drop, List.length_take]; rfl)) ?_; (with_reducible refine (tenorref6_Check.calls k a0_0 _ _ l0_1 t523 t524 _ ?side1 ?side2 A4.out).mono ?_); (case side1 => repeat (first | exact (Kd.C_below HR0_1.out HB.out) | (with_reducible refine Kd.C_alloc ?_ _) | (with_reducible refine Kd.C_drewN ?_ _) | (with_reducible refine Kd.C_drew ?_))); (case side2 => exact HC0_1.out); rintro e w17 ⟨rfl, hb⟩; refine ⟨_, rfl, ?_⟩; have n0_ := Aside0.mk (blk_below (g := gb522) (o := .cells #[.int .i64 a0_0, .slice A0_1 l0_1.length c0_1] 24 (0, 0)) (by (with_reducible repeat (first | refine blk_drewN ?_ _ | refine blk_drew ?_ | refine blk_alloc ?_ _)); exact BK522.out) hb); have n1_ := Aside0.mk (below_step (by repeat (first | (with_reducible first | exact HB.out | apply below_alloc | apply pw_below_drewN | apply below_drew1 | refine below_set ?_ GE522.out) | exact HB.out)) hb); clear BK522; clear HB; have BK522 := n0_; have HB := n1_; clear n0_ n1_; (try clear hb); (try clear hb2); (try clear hk); (try clear hi)) | ((with_reducible refine gate_callee (f := 79) rfl ?_); refine goesL_ (some 22) rfl rfl Try.func79 (by kernel_rfl) rfl #[.int .i64 a2, .int .i64 0, .int .i64 4] rfl (by (try simp only [List.map_toArray, List.map_cons, List.map_nil]); first | done | rfl | (simp only [List.length_drop, List.length_take]; rfl)) ?_; (with_reducible refine (tenorref6_in.calls a2 0 4 true _ A6.out).mono ?_); rintro e w' ⟨rfl, ⟨nd, rfl⟩⟩; refine ⟨_, rfl, ?_⟩) | ((with_reducible refine gate_callee (f := 80) rfl ?_); refine goesL_ (some 25) rfl rfl Try.func80 (by kernel_rfl) rfl #[.int .i64 a1] rfl (by (try simp only [List.map_toArray, List.map_cons, List.map_nil]); first | done | rfl | (simp only [List.length_drop, List.length_take]; rfl)) ?_; (with_reducible refine (tenorref6_isDay.calls a1 true _ A8.out).mono ?_); rintro e w' ⟨rfl, ⟨nd, rfl⟩⟩; refine ⟨_, rfl, ?_⟩))
          (try simp only [Act.put, List.setIfInBounds_toArray, List.set_cons_zero, List.set_cons_succ])
          go_cut [35] (fun v35 wc => ∃ (kq : Nat) (x35_13 : Bool), v35 = .bool x35_13 ∧ Aside0 (tenorref6_Adjust.j0 kq a1 a2 1 x35_13 a0_0 l0_1 = some (r1, r2)) ∧ Aside0 (kq ≤ k) ∧ Aside0 (wc.heap[gb522]? = some (.cells #[.int .i64 a0_0, (.slice A0_1 l0_1.length c0_1)] 24 (0, 0))) ∧ Aside0 (Below w.heap.size w wc))
          case first =>
            have H := HC14.out
            clear HC14
            by_cases c18 : a2 = 2
            · rw [if_pos c18] at H
              have c18b0 : (a2 == 2) = true := beq_iff_eq.mpr c18
              have c18b1 : (a2 != 2) = false := bne_eq_false_iff_eq.mpr c18
              clear c18
              (first | rw [c18b0] | (simp only [i64_w, i32_w]; rw [c18b0]) | skip)
              have H' := Aside0.mk H
              clear H
              go_wp2
              go_meet
              case rel => exact ⟨_, (true), (by first | rfl | (simp; done) | (simp [*]; done)), H', ⟨by first | omega | exact Nat.le_refl _⟩, ⟨by (with_reducible repeat (first | refine blk_drewN ?_ _ | refine blk_drew ?_ | refine blk_alloc ?_ _)); exact BK522.out⟩, ⟨by repeat (first | (with_reducible first | exact HB.out | apply below_alloc | apply pw_below_drewN | apply below_drew1 | refine below_set ?_ GE522.out) | exact HB.out)⟩⟩
            · rw [if_neg c18] at H
              have c18b0 : (a2 == 2) = false := beq_eq_false_iff_ne.mpr c18
              have c18b1 : (a2 != 2) = true := bne_iff_ne.mpr c18
              (first | rw [c18b0] | (simp only [i64_w, i32_w]; rw [c18b0]) | skip)
              have H' := Aside0.mk H
              clear H
              go_wp2
              go_meet
              case rel => exact ⟨_, ((a2 == 4)), (by first | rfl | (simp; done) | (simp [*]; done)), H', ⟨by first | omega | exact Nat.le_refl _⟩, ⟨by (with_reducible repeat (first | refine blk_drewN ?_ _ | refine blk_drew ?_ | refine blk_alloc ?_ _)); exact BK522.out⟩, ⟨by repeat (first | (with_reducible first | exact HB.out | apply below_alloc | apply pw_below_drewN | apply below_drew1 | refine below_set ?_ GE522.out) | exact HB.out)⟩⟩
          case rest =>
            clear HC14
            try clear c1
            try clear p2
            try clear c3
            try clear c4
            try clear c5
            try clear c5b0
            try clear c5b1
            try clear c7
            try clear c8
            try clear c9
            try clear c10
            try clear c10b0
            try clear c10b1
            try clear c18
            try clear c18b0
            try clear c18b1
            try clear hcz12_0
            try clear hcz12_1
            try clear hcz16_0
            try clear hcz16_1
            try clear hfz12_0
            try clear hfz12_1
            try clear hfz16_0
            try clear hfz16_1
            obtain ⟨kq, x35_13, rfl, HA, HJ13, BK522, HB⟩ := hcut
            cases kq with
            | zero => exact absurd HA.out (by simp [tenorref6_Adjust.j0])
            | succ kj13 =>
              have H := HA.out
              clear HA
              simp only [tenorref6_Adjust.j0] at H
              have HC19 := Aside0.mk H
              clear H
              go_upto_if 35 with (fail)
              go_cut [10] (fun v10 wc => ∃ (kq : Nat) (x10_18 : Int), v10 = .int .i64 x10_18 ∧ Aside0 (tenorref6_Adjust.j1 kq a1 a2 x10_18 a0_0 l0_1 = some (r1, r2)) ∧ Aside0 (kq ≤ kj13) ∧ Aside0 (wc.heap[gb522]? = some (.cells #[.int .i64 a0_0, (.slice A0_1 l0_1.length c0_1)] 24 (0, 0))) ∧ Aside0 (Below w.heap.size w wc))
              case first =>
                have H := HC19.out
                clear HC19
                by_cases c20 : x35_13 = true
                · subst c20
                  have H1 : (tenorref6_Adjust.j1 kj13 a1 a2 (-1) a0_0 l0_1) = some (r1, r2) := by rw [if_pos rfl] at H; exact H
                  clear H
                  have H := H1
                  clear H1
                  have H' := Aside0.mk H
                  clear H
                  go_wp2
                  go_meet
                  case rel => exact ⟨_, ((-1)), (by first | rfl | (simp; done) | (simp [*]; done)), H', ⟨by have := HJ13.out; first | omega | exact Nat.le_refl _⟩, ⟨by (with_reducible repeat (first | refine blk_drewN ?_ _ | refine blk_drew ?_ | refine blk_alloc ?_ _)); exact BK522.out⟩, ⟨by repeat (first | (with_reducible first | exact HB.out | apply below_alloc | apply pw_below_drewN | apply below_drew1 | refine below_set ?_ GE522.out) | exact HB.out)⟩⟩
                · replace c20 := Bool.eq_false_iff.mpr c20
                  subst c20
                  have H1 : (tenorref6_Adjust.j1 kj13 a1 a2 1 a0_0 l0_1) = some (r1, r2) := by rw [if_neg (show ¬ (false = true) by decide)] at H; exact H
                  clear H
                  have H := H1
                  clear H1
                  have H' := Aside0.mk H
                  clear H
                  go_wp2
                  go_meet
                  case rel => exact ⟨_, (1), (by first | rfl | (simp; done) | (simp [*]; done)), H', ⟨by have := HJ13.out; first | omega | exact Nat.le_refl _⟩, ⟨by (with_reducible repeat (first | refine blk_drewN ?_ _ | refine blk_drew ?_ | refine blk_alloc ?_ _)); exact BK522.out⟩, ⟨by repeat (first | (with_reducible first | exact HB.out | apply below_alloc | apply pw_below_drewN | apply below_drew1 | refine below_set ?_ GE522.out) | exact HB.out)⟩⟩
              case rest =>
                clear HC19
                try clear c1
                try clear c2
                try clear p2
                try clear c3
                try clear c4
                try clear c5
                try clear c5b0
                try clear c5b1
                try clear c7
                try clear c8
                try clear c9
                try clear c10
                try clear c10b0
                try clear c10b1
                try clear c18
                try clear c18b0
                try clear c18b1
                try clear c20
                try clear hcz12_0
                try clear hcz12_1
                try clear hcz16_0
                try clear hcz16_1
                try clear hfz12_0
                try clear hfz12_1
                try clear hfz16_0
                try clear hfz16_1
                try clear p2
                obtain ⟨kq, x10_18, rfl, HA, HJ18, BK522, HB⟩ := hcut
                cases kq with
                | zero => exact absurd HA.out (by simp [tenorref6_Adjust.j1])
                | succ kj18 =>
                  have H := HA.out
                  clear HA
                  simp only [tenorref6_Adjust.j1] at H
                  replace H := Option.bind_eq_some_iff.mp H
                  obtain ⟨⟨t527, t528⟩, A210, H⟩ := H
                  replace H : (if a2 = 3 then (if t528 = true then ((tenorref6_month.f kj18 t527).bind fun t529 => ((tenorref6_month.f kj18 a1).bind fun t530 => (tenorref6_Adjust.j2 kj18 a1 x10_18 t527 t528 (t529 != t530) a0_0 l0_1))) else (tenorref6_Adjust.j2 kj18 a1 x10_18 t527 t528 true a0_0 l0_1)) else (if a2 = 4 then (if t528 = true then ((tenorref6_month.f kj18 t527).bind fun t531 => ((tenorref6_month.f kj18 a1).bind fun t532 => (tenorref6_Adjust.j2 kj18 a1 x10_18 t527 t528 (t531 != t532) a0_0 l0_1))) else (tenorref6_Adjust.j2 kj18 a1 x10_18 t527 t528 true a0_0 l0_1)) else (tenorref6_Adjust.j2 kj18 a1 x10_18 t527 t528 false a0_0 l0_1))) = some (r1, r2) := H
                  have A21 := Aside0.mk A210
                  clear A210
                  have HC22 := Aside0.mk H
                  clear H
                  have hcz23_0 : wc.cell? ⟨gb522, 0, none⟩ = some (.int .i64 a0_0) := (blk_cell BK522.out 0).trans rfl
                  have hcz23_1 : wc.cell? ⟨gb522, 1, none⟩ = some (.slice A0_1 l0_1.length c0_1) := (blk_cell BK522.out 1).trans rfl
                  have hfz23_0 := blk_frozen BK522.out 0
                  have hfz23_1 := blk_frozen BK522.out 1
                  go_upto_region 14 with (first | ((with_reducible refine gate_callee (f := 81) rfl ?_); refine goesL_ (some 40) rfl rfl Try.func81 (by kernel_rfl) rfl #[.agg #[.int .i64 a0_0, .slice A0_1 l0_1.length c0_1], .int .i64 a1, .int .i64 x10_18] rfl (by (try simp only [List.map_toArray, List.map_cons, List.map_nil]); first | done | rfl | (simp only [List.length_drop, List.length_take]; rfl)) ?_; (with_reducible refine (tenorref6_search.calls kj18 a0_0 _ _ l0_1 a1 x10_18 t527 t528 _ ?side1 ?side2 A21.out).mono ?_); (case side1 => repeat (first | exact (Kd.C_below HR0_1.out HB.out) | (with_reducible refine Kd.C_alloc ?_ _) | (with_reducible refine Kd.C_drewN ?_ _) | (with_reducible refine Kd.C_drew ?_))); (case side2 => exact HC0_1.out); rintro e w24 ⟨rfl, hb⟩; refine ⟨_, rfl, ?_⟩; have n0_ := Aside0.mk (blk_below (g := gb522) (o := .cells #[.int .i64 a0_0, .slice A0_1 l0_1.length c0_1] 24 (0, 0)) (by (with_reducible repeat (first | refine blk_drewN ?_ _ | refine blk_drew ?_ | refine blk_alloc ?_ _)); exact BK522.out) hb); have n1_ := Aside0.mk (below_step (by repeat (first | (with_reducible first | exact HB.out | apply below_alloc | apply pw_below_drewN | apply below_drew1 | refine below_set ?_ GE522.out) | exact HB.out)) hb); clear BK522; clear HB; have BK522 := n0_; have HB := n1_; clear n0_ n1_; (try clear hb); (try clear hb2); (try clear hk); (try clear hi)))
                  (try simp only [Act.put, List.setIfInBounds_toArray, List.set_cons_zero, List.set_cons_succ])
                  go_cut [59] (fun v59 wc => ∃ (kq : Nat) (x59_21 : Bool), v59 = .bool x59_21 ∧ Aside0 (tenorref6_Adjust.j2 kq a1 x10_18 t527 t528 x59_21 a0_0 l0_1 = some (r1, r2)) ∧ Aside0 (kq ≤ kj18) ∧ Aside0 (wc.heap[gb522]? = some (.cells #[.int .i64 a0_0, (.slice A0_1 l0_1.length c0_1)] 24 (0, 0))) ∧ Aside0 (Below w.heap.size w wc))
                  case first =>
                    have H := HC22.out
                    clear HC22
                    by_cases c25 : a2 = 3
                    · rw [if_pos c25] at H
                      have c25b0 : (a2 == 3) = true := beq_iff_eq.mpr c25
                      have c25b1 : (a2 != 3) = false := bne_eq_false_iff_eq.mpr c25
                      clear c25
                      (first | rw [c25b0] | (simp only [i64_w, i32_w]; rw [c25b0]) | skip)
                      by_cases c26 : t528 = true
                      · subst c26
                        have H1 : ((tenorref6_month.f kj18 t527).bind fun t529 => ((tenorref6_month.f kj18 a1).bind fun t530 => (tenorref6_Adjust.j2 kj18 a1 x10_18 t527 true (t529 != t530) a0_0 l0_1))) = some (r1, r2) := by rw [if_pos rfl] at H; exact H
                        clear H
                        have H := H1
                        clear H1
                        replace H := Option.bind_eq_some_iff.mp H
                        obtain ⟨t529, A270, H⟩ := H
                        replace H : ((tenorref6_month.f kj18 a1).bind fun t530 => (tenorref6_Adjust.j2 kj18 a1 x10_18 t527 true (t529 != t530) a0_0 l0_1)) = some (r1, r2) := H
                        have A27 := Aside0.mk A270
                        clear A270
                        replace H := Option.bind_eq_some_iff.mp H
                        obtain ⟨t530, A280, H⟩ := H
                        replace H : (tenorref6_Adjust.j2 kj18 a1 x10_18 t527 true (t529 != t530) a0_0 l0_1) = some (r1, r2) := H
                        have A28 := Aside0.mk A280
                        clear A280
                        have H' := Aside0.mk H
                        clear H
                        go_wp2_with (first | (go_at_call 82; (with_reducible refine (tenorref6_month.calls kj18 t527 t529 _ A27.out).mono ?_); rintro e w29 ⟨rfl, hb⟩; have n0_ := Aside0.mk (blk_below (g := gb522) (o := .cells #[.int .i64 a0_0, .slice A0_1 l0_1.length c0_1] 24 (0, 0)) (by (with_reducible repeat (first | refine blk_drewN ?_ _ | refine blk_drew ?_ | refine blk_alloc ?_ _)); exact BK522.out) hb); have n1_ := Aside0.mk (below_step (by repeat (first | (with_reducible first | exact HB.out | apply below_alloc | apply pw_below_drewN | apply below_drew1 | refine below_set ?_ GE522.out) | exact HB.out)) hb); clear BK522; clear HB; have BK522 := n0_; have HB := n1_; clear n0_ n1_; (try clear hb); (try clear hb2); (try clear hk); (try clear hi)) | (go_at_call 82; (with_reducible refine (tenorref6_month.calls kj18 a1 t530 _ A28.out).mono ?_); rintro e w30 ⟨rfl, hb⟩; have n0_ := Aside0.mk (blk_below (g := gb522) (o := .cells #[.int .i64 a0_0, .slice A0_1 l0_1.length c0_1] 24 (0, 0)) (by (with_reducible repeat (first | refine blk_drewN ?_ _ | refine blk_drew ?_ | refine blk_alloc ?_ _)); exact BK522.out) hb); have n1_ := Aside0.mk (below_step (by repeat (first | (with_reducible first | exact HB.out | apply below_alloc | apply pw_below_drewN | apply below_drew1 | refine below_set ?_ GE522.out) | exact HB.out)) hb); clear BK522; clear HB; have BK522 := n0_; have HB := n1_; clear n0_ n1_; (try clear hb); (try clear hb2); (try clear hk); (try clear hi)))
                        go_meet
                        case rel => exact ⟨_, ((t529 != t530)), (by first | rfl | (simp; done) | (simp [*]; done)), H', ⟨by have := HJ13.out; have := HJ18.out; first | omega | exact Nat.le_refl _⟩, ⟨by (with_reducible repeat (first | refine blk_drewN ?_ _ | refine blk_drew ?_ | refine blk_alloc ?_ _)); exact BK522.out⟩, ⟨by repeat (first | (with_reducible first | exact HB.out | apply below_alloc | apply pw_below_drewN | apply below_drew1 | refine below_set ?_ GE522.out) | exact HB.out)⟩⟩
                      · replace c26 := Bool.eq_false_iff.mpr c26
                        subst c26
                        have H1 : (tenorref6_Adjust.j2 kj18 a1 x10_18 t527 false true a0_0 l0_1) = some (r1, r2) := by rw [if_neg (show ¬ (false = true) by decide)] at H; exact H
                        clear H
                        have H := H1
                        clear H1
                        have H' := Aside0.mk H
                        clear H
                        go_wp2
                        go_meet
                        case rel => exact ⟨_, (true), (by first | rfl | (simp; done) | (simp [*]; done)), H', ⟨by have := HJ13.out; have := HJ18.out; first | omega | exact Nat.le_refl _⟩, ⟨by (with_reducible repeat (first | refine blk_drewN ?_ _ | refine blk_drew ?_ | refine blk_alloc ?_ _)); exact BK522.out⟩, ⟨by repeat (first | (with_reducible first | exact HB.out | apply below_alloc | apply pw_below_drewN | apply below_drew1 | refine below_set ?_ GE522.out) | exact HB.out)⟩⟩
                    · rw [if_neg c25] at H
                      have c25b0 : (a2 == 3) = false := beq_eq_false_iff_ne.mpr c25
                      have c25b1 : (a2 != 3) = true := bne_iff_ne.mpr c25
                      (first | rw [c25b0] | (simp only [i64_w, i32_w]; rw [c25b0]) | skip)
                      by_cases c31 : a2 = 4
                      · rw [if_pos c31] at H
                        have c31b0 : (a2 == 4) = true := beq_iff_eq.mpr c31
                        have c31b1 : (a2 != 4) = false := bne_eq_false_iff_eq.mpr c31
                        clear c31
                        by_cases c32 : t528 = true
                        · subst c32
                          have H1 : ((tenorref6_month.f kj18 t527).bind fun t531 => ((tenorref6_month.f kj18 a1).bind fun t532 => (tenorref6_Adjust.j2 kj18 a1 x10_18 t527 true (t531 != t532) a0_0 l0_1))) = some (r1, r2) := by rw [if_pos rfl] at H; exact H
                          clear H
                          have H := H1
                          clear H1
                          replace H := Option.bind_eq_some_iff.mp H
                          obtain ⟨t531, A330, H⟩ := H
                          replace H : ((tenorref6_month.f kj18 a1).bind fun t532 => (tenorref6_Adjust.j2 kj18 a1 x10_18 t527 true (t531 != t532) a0_0 l0_1)) = some (r1, r2) := H
                          have A33 := Aside0.mk A330
                          clear A330
                          replace H := Option.bind_eq_some_iff.mp H
                          obtain ⟨t532, A340, H⟩ := H
                          replace H : (tenorref6_Adjust.j2 kj18 a1 x10_18 t527 true (t531 != t532) a0_0 l0_1) = some (r1, r2) := H
                          have A34 := Aside0.mk A340
                          clear A340
                          have H' := Aside0.mk H
                          clear H
                          go_wp2_with (first | (go_at_call 82; (with_reducible refine (tenorref6_month.calls kj18 t527 t531 _ A33.out).mono ?_); rintro e w35 ⟨rfl, hb⟩; have n0_ := Aside0.mk (blk_below (g := gb522) (o := .cells #[.int .i64 a0_0, .slice A0_1 l0_1.length c0_1] 24 (0, 0)) (by (with_reducible repeat (first | refine blk_drewN ?_ _ | refine blk_drew ?_ | refine blk_alloc ?_ _)); exact BK522.out) hb); have n1_ := Aside0.mk (below_step (by repeat (first | (with_reducible first | exact HB.out | apply below_alloc | apply pw_below_drewN | apply below_drew1 | refine below_set ?_ GE522.out) | exact HB.out)) hb); clear BK522; clear HB; have BK522 := n0_; have HB := n1_; clear n0_ n1_; (try clear hb); (try clear hb2); (try clear hk); (try clear hi)) | (go_at_call 82; (with_reducible refine (tenorref6_month.calls kj18 a1 t532 _ A34.out).mono ?_); rintro e w36 ⟨rfl, hb⟩; have n0_ := Aside0.mk (blk_below (g := gb522) (o := .cells #[.int .i64 a0_0, .slice A0_1 l0_1.length c0_1] 24 (0, 0)) (by (with_reducible repeat (first | refine blk_drewN ?_ _ | refine blk_drew ?_ | refine blk_alloc ?_ _)); exact BK522.out) hb); have n1_ := Aside0.mk (below_step (by repeat (first | (with_reducible first | exact HB.out | apply below_alloc | apply pw_below_drewN | apply below_drew1 | refine below_set ?_ GE522.out) | exact HB.out)) hb); clear BK522; clear HB; have BK522 := n0_; have HB := n1_; clear n0_ n1_; (try clear hb); (try clear hb2); (try clear hk); (try clear hi)))
                          go_meet
                          case rel => exact ⟨_, ((t531 != t532)), (by first | rfl | (simp; done) | (simp [*]; done)), H', ⟨by have := HJ13.out; have := HJ18.out; first | omega | exact Nat.le_refl _⟩, ⟨by (with_reducible repeat (first | refine blk_drewN ?_ _ | refine blk_drew ?_ | refine blk_alloc ?_ _)); exact BK522.out⟩, ⟨by repeat (first | (with_reducible first | exact HB.out | apply below_alloc | apply pw_below_drewN | apply below_drew1 | refine below_set ?_ GE522.out) | exact HB.out)⟩⟩
                        · replace c32 := Bool.eq_false_iff.mpr c32
                          subst c32
                          have H1 : (tenorref6_Adjust.j2 kj18 a1 x10_18 t527 false true a0_0 l0_1) = some (r1, r2) := by rw [if_neg (show ¬ (false = true) by decide)] at H; exact H
                          clear H
                          have H := H1
                          clear H1
                          have H' := Aside0.mk H
                          clear H
                          go_wp2
                          go_meet
                          case rel => exact ⟨_, (true), (by first | rfl | (simp; done) | (simp [*]; done)), H', ⟨by have := HJ13.out; have := HJ18.out; first | omega | exact Nat.le_refl _⟩, ⟨by (with_reducible repeat (first | refine blk_drewN ?_ _ | refine blk_drew ?_ | refine blk_alloc ?_ _)); exact BK522.out⟩, ⟨by repeat (first | (with_reducible first | exact HB.out | apply below_alloc | apply pw_below_drewN | apply below_drew1 | refine below_set ?_ GE522.out) | exact HB.out)⟩⟩
                      · rw [if_neg c31] at H
                        have c31b0 : (a2 == 4) = false := beq_eq_false_iff_ne.mpr c31
                        have c31b1 : (a2 != 4) = true := bne_iff_ne.mpr c31
                        have H' := Aside0.mk H
                        clear H
                        go_wp2
                        go_meet
                        case rel => exact ⟨_, (false), (by first | rfl | (simp; done) | (simp [*]; done)), H', ⟨by have := HJ13.out; have := HJ18.out; first | omega | exact Nat.le_refl _⟩, ⟨by (with_reducible repeat (first | refine blk_drewN ?_ _ | refine blk_drew ?_ | refine blk_alloc ?_ _)); exact BK522.out⟩, ⟨by repeat (first | (with_reducible first | exact HB.out | apply below_alloc | apply pw_below_drewN | apply below_drew1 | refine below_set ?_ GE522.out) | exact HB.out)⟩⟩
                  case rest =>
                    clear HC22
                    try clear c1
                    try clear c2
                    try clear p2
                    try clear c3
                    try clear c4
                    try clear c5
                    try clear c5b0
                    try clear c5b1
                    try clear c7
                    try clear c8
                    try clear c9
                    try clear c10
                    try clear c10b0
                    try clear c10b1
                    try clear c18
                    try clear c18b0
                    try clear c18b1
                    try clear c20
                    try clear c25
                    try clear c25b0
                    try clear c25b1
                    try clear c26
                    try clear c31
                    try clear c31b0
                    try clear c31b1
                    try clear c32
                    try clear hcz12_0
                    try clear hcz12_1
                    try clear hcz16_0
                    try clear hcz16_1
                    try clear hcz23_0
                    try clear hcz23_1
                    try clear hfz12_0
                    try clear hfz12_1
                    try clear hfz16_0
                    try clear hfz16_1
                    try clear hfz23_0
                    try clear hfz23_1
                    try clear p2
                    obtain ⟨kq, x59_21, rfl, HA, HJ21, BK522, HB⟩ := hcut
                    cases kq with
                    | zero => exact absurd HA.out (by simp [tenorref6_Adjust.j2])
                    | succ kj21 =>
                      have H := HA.out
                      clear HA
                      simp only [tenorref6_Adjust.j2] at H
                      by_cases c37 : x59_21 = true
                      · subst c37
                        have H1 : ((tenorref6_search.f kj21 a0_0 l0_1 a1 (wrap64 (-x10_18))).bind fun bt533 => (if bt533.2 = true then (some (bt533.1, 0)) else (some (0, 51)))) = some (r1, r2) := by rw [if_pos rfl] at H; exact H
                        clear H
                        have H := H1
                        clear H1
                        replace H := Option.bind_eq_some_iff.mp H
                        obtain ⟨⟨t533, t534⟩, A380, H⟩ := H
                        replace H : (if t534 = true then (some (t533, 0)) else (some (0, 51))) = some (r1, r2) := H
                        have A38 := Aside0.mk A380
                        clear A380
                        by_cases c39 : t534 = true
                        · subst c39
                          have H1 : (some (t533, 0)) = some (r1, r2) := by rw [if_pos rfl] at H; exact H
                          clear H
                          have H := H1
                          clear H1
                          simp only [Option.some.injEq, Prod.mk.injEq] at H
                          obtain ⟨rfl, rfl⟩ := H
                          have hcz40_0 : wc.cell? ⟨gb522, 0, none⟩ = some (.int .i64 a0_0) := (blk_cell BK522.out 0).trans rfl
                          have hcz40_1 : wc.cell? ⟨gb522, 1, none⟩ = some (.slice A0_1 l0_1.length c0_1) := (blk_cell BK522.out 1).trans rfl
                          have hfz40_0 := blk_frozen BK522.out 0
                          have hfz40_1 := blk_frozen BK522.out 1
                          go_wp2_with (first | ((with_reducible refine gate_callee (f := 81) rfl ?_); refine goesL_ (some 65) rfl rfl Try.func81 (by kernel_rfl) rfl #[.agg #[.int .i64 a0_0, .slice A0_1 l0_1.length c0_1], .int .i64 a1, .int .i64 (wrap64 (-x10_18))] rfl (by (try simp only [List.map_toArray, List.map_cons, List.map_nil]); first | done | rfl | (simp only [List.length_drop, List.length_take]; rfl)) ?_; (with_reducible refine (tenorref6_search.calls kj21 a0_0 _ _ l0_1 a1 (wrap64 (-x10_18)) t533 true _ ?side1 ?side2 A38.out).mono ?_); (case side1 => repeat (first | exact (Kd.C_below HR0_1.out HB.out) | (with_reducible refine Kd.C_alloc ?_ _) | (with_reducible refine Kd.C_drewN ?_ _) | (with_reducible refine Kd.C_drew ?_))); (case side2 => exact HC0_1.out); rintro e w41 ⟨rfl, hb⟩; refine ⟨_, rfl, ?_⟩; have n0_ := Aside0.mk (blk_below (g := gb522) (o := .cells #[.int .i64 a0_0, .slice A0_1 l0_1.length c0_1] 24 (0, 0)) (by (with_reducible repeat (first | refine blk_drewN ?_ _ | refine blk_drew ?_ | refine blk_alloc ?_ _)); exact BK522.out) hb); have n1_ := Aside0.mk (below_step (by repeat (first | (with_reducible first | exact HB.out | apply below_alloc | apply pw_below_drewN | apply below_drew1 | refine below_set ?_ GE522.out) | exact HB.out)) hb); clear BK522; clear HB; have BK522 := n0_; have HB := n1_; clear n0_ n1_; (try clear hb); (try clear hb2); (try clear hk); (try clear hi)))
                          go_ret2
                          exact ⟨by first | rfl | (simp [errW_none, errW_some] <;> rfl) | (simp [*, errW_none, errW_some] <;> rfl), by repeat (first | (with_reducible first | exact HB.out | apply below_alloc | apply pw_below_drewN | apply below_drew1 | refine below_set ?_ GE522.out) | exact HB.out)⟩
                        · replace c39 := Bool.eq_false_iff.mpr c39
                          subst c39
                          have H1 : (some (0, 51)) = some (r1, r2) := by rw [if_neg (show ¬ (false = true) by decide)] at H; exact H
                          clear H
                          have H := H1
                          clear H1
                          simp only [Option.some.injEq, Prod.mk.injEq] at H
                          obtain ⟨rfl, rfl⟩ := H
                          have hcz42_0 : wc.cell? ⟨gb522, 0, none⟩ = some (.int .i64 a0_0) := (blk_cell BK522.out 0).trans rfl
                          have hcz42_1 : wc.cell? ⟨gb522, 1, none⟩ = some (.slice A0_1 l0_1.length c0_1) := (blk_cell BK522.out 1).trans rfl
                          have hfz42_0 := blk_frozen BK522.out 0
                          have hfz42_1 := blk_frozen BK522.out 1
                          go_wp2_with (first | ((with_reducible refine gate_callee (f := 81) rfl ?_); refine goesL_ (some 65) rfl rfl Try.func81 (by kernel_rfl) rfl #[.agg #[.int .i64 a0_0, .slice A0_1 l0_1.length c0_1], .int .i64 a1, .int .i64 (wrap64 (-x10_18))] rfl (by (try simp only [List.map_toArray, List.map_cons, List.map_nil]); first | done | rfl | (simp only [List.length_drop, List.length_take]; rfl)) ?_; (with_reducible refine (tenorref6_search.calls kj21 a0_0 _ _ l0_1 a1 (wrap64 (-x10_18)) t533 false _ ?side1 ?side2 A38.out).mono ?_); (case side1 => repeat (first | exact (Kd.C_below HR0_1.out HB.out) | (with_reducible refine Kd.C_alloc ?_ _) | (with_reducible refine Kd.C_drewN ?_ _) | (with_reducible refine Kd.C_drew ?_))); (case side2 => exact HC0_1.out); rintro e w43 ⟨rfl, hb⟩; refine ⟨_, rfl, ?_⟩; have n0_ := Aside0.mk (blk_below (g := gb522) (o := .cells #[.int .i64 a0_0, .slice A0_1 l0_1.length c0_1] 24 (0, 0)) (by (with_reducible repeat (first | refine blk_drewN ?_ _ | refine blk_drew ?_ | refine blk_alloc ?_ _)); exact BK522.out) hb); have n1_ := Aside0.mk (below_step (by repeat (first | (with_reducible first | exact HB.out | apply below_alloc | apply pw_below_drewN | apply below_drew1 | refine below_set ?_ GE522.out) | exact HB.out)) hb); clear BK522; clear HB; have BK522 := n0_; have HB := n1_; clear n0_ n1_; (try clear hb); (try clear hb2); (try clear hk); (try clear hi)))
                          go_ret2
                          exact ⟨by first | rfl | (simp [errW_none, errW_some] <;> rfl) | (simp [*, errW_none, errW_some] <;> rfl), by repeat (first | (with_reducible first | exact HB.out | apply below_alloc | apply pw_below_drewN | apply below_drew1 | refine below_set ?_ GE522.out) | exact HB.out)⟩
                      · replace c37 := Bool.eq_false_iff.mpr c37
                        subst c37
                        have H1 : (if t528 = true then (some (t527, 0)) else (some (0, 51))) = some (r1, r2) := by rw [if_neg (show ¬ (false = true) by decide)] at H; exact H
                        clear H
                        have H := H1
                        clear H1
                        by_cases c44 : t528 = true
                        · subst c44
                          have H1 : (some (t527, 0)) = some (r1, r2) := by rw [if_pos rfl] at H; exact H
                          clear H
                          have H := H1
                          clear H1
                          simp only [Option.some.injEq, Prod.mk.injEq] at H
                          obtain ⟨rfl, rfl⟩ := H
                          go_wp2
                          go_ret2
                          exact ⟨by first | rfl | (simp [errW_none, errW_some] <;> rfl) | (simp [*, errW_none, errW_some] <;> rfl), by repeat (first | (with_reducible first | exact HB.out | apply below_alloc | apply pw_below_drewN | apply below_drew1 | refine below_set ?_ GE522.out) | exact HB.out)⟩
                        · replace c44 := Bool.eq_false_iff.mpr c44
                          subst c44
                          have H1 : (some (0, 51)) = some (r1, r2) := by rw [if_neg (show ¬ (false = true) by decide)] at H; exact H
                          clear H
                          have H := H1
                          clear H1
                          simp only [Option.some.injEq, Prod.mk.injEq] at H
                          obtain ⟨rfl, rfl⟩ := H
                          go_wp2
                          go_ret2
                          exact ⟨by first | rfl | (simp [errW_none, errW_some] <;> rfl) | (simp [*, errW_none, errW_some] <;> rfl), by repeat (first | (with_reducible first | exact HB.out | apply below_alloc | apply pw_below_drewN | apply below_drew1 | refine below_set ?_ GE522.out) | exact HB.out)⟩
      · replace c9 := Bool.eq_false_iff.mpr c9
        subst c9
        have H1 : (some (0, 51)) = some (r1, r2) := by rw [if_neg (show ¬ (false = true) by decide)] at H; exact H
        clear H
        have H := H1
        clear H1
        simp only [Option.some.injEq, Prod.mk.injEq] at H
        obtain ⟨rfl, rfl⟩ := H
        go_enter Try.func39, Try.ntmps39
        go_wp2_with (first | ((with_reducible refine gate_dst (N := 3) rfl ?_); refine box_event ?hg (N := 3) ?hd (cs := #[.int .i64 a0_0, .slice A0_1 l0_1.length c0_1]) (t := 24) ?hr ?_; (case hd => rfl); (case hg => rfl); (case hr => first | (go_simp; done) | (go_simp; rfl)); intro gb522 hg w45 hbox hb; have n0_ := Aside0.mk (below_step (by repeat (first | (with_reducible first | exact HB.out | apply below_alloc | apply pw_below_drewN | apply below_drew1) | exact HB.out)) hb); have n1_ := Aside0.mk (hbox); have n2_ := Aside0.mk ((by rw [hg]; exact (below_size (by repeat (first | (with_reducible first | exact HB.out | apply below_alloc | apply pw_below_drewN | apply below_drew1) | exact HB.out))) : w.heap.size ≤ gb522)); have n3_ := Aside0.mk ((by rw [hg]; exact (below_size (by repeat (first | (with_reducible first | exact HB.out | apply below_alloc | apply pw_below_drewN | apply below_drew1) | exact HB.out))) : w.heap.size ≤ gb522)); clear HB; have HB := n0_; have BK522 := n1_; have GW522 := n2_; have GE522 := n3_; clear n0_ n1_ n2_ n3_; clear hb hbox hg; have hcz46_0 : w45.cell? ⟨gb522, 0, none⟩ = some (.int .i64 a0_0) := (blk_cell BK522.out 0).trans rfl; have hcz46_1 : w45.cell? ⟨gb522, 1, none⟩ = some (.slice A0_1 l0_1.length c0_1) := (blk_cell BK522.out 1).trans rfl; have hfz46_0 := blk_frozen BK522.out 0; have hfz46_1 := blk_frozen BK522.out 1) | ((with_reducible refine gate_callee (f := 45) rfl ?_); refine goesL_ (some 15) rfl rfl Try.func45 (by kernel_rfl) rfl #[.agg #[.int .i64 a0_0, .slice A0_1 l0_1.length c0_1]] rfl (by (try simp only [List.map_toArray, List.map_cons, List.map_nil]); first | done | rfl | (simp only [List.length_drop, List.length_take]; rfl)) ?_; (with_reducible refine (tenorref6_Check.calls k a0_0 _ _ l0_1 t523 t524 _ ?side1 ?side2 A4.out).mono ?_); (case side1 => repeat (first | exact (Kd.C_below HR0_1.out HB.out) | (with_reducible refine Kd.C_alloc ?_ _) | (with_reducible refine Kd.C_drewN ?_ _) | (with_reducible refine Kd.C_drew ?_))); (case side2 => exact HC0_1.out); rintro e w47 ⟨rfl, hb⟩; refine ⟨_, rfl, ?_⟩; have n0_ := Aside0.mk (blk_below (g := gb522) (o := .cells #[.int .i64 a0_0, .slice A0_1 l0_1.length c0_1] 24 (0, 0)) (by (with_reducible repeat (first | refine blk_drewN ?_ _ | refine blk_drew ?_ | refine blk_alloc ?_ _)); exact BK522.out) hb); have n1_ := Aside0.mk (below_step (by repeat (first | (with_reducible first | exact HB.out | apply below_alloc | apply pw_below_drewN | apply below_drew1 | refine below_set ?_ GE522.out) | exact HB.out)) hb); clear BK522; clear HB; have BK522 := n0_; have HB := n1_; clear n0_ n1_; (try clear hb); (try clear hb2); (try clear hk); (try clear hi)) | ((with_reducible refine gate_callee (f := 79) rfl ?_); refine goesL_ (some 22) rfl rfl Try.func79 (by kernel_rfl) rfl #[.int .i64 a2, .int .i64 0, .int .i64 4] rfl (by (try simp only [List.map_toArray, List.map_cons, List.map_nil]); first | done | rfl | (simp only [List.length_drop, List.length_take]; rfl)) ?_; (with_reducible refine (tenorref6_in.calls a2 0 4 true _ A6.out).mono ?_); rintro e w' ⟨rfl, ⟨nd, rfl⟩⟩; refine ⟨_, rfl, ?_⟩) | ((with_reducible refine gate_callee (f := 80) rfl ?_); refine goesL_ (some 25) rfl rfl Try.func80 (by kernel_rfl) rfl #[.int .i64 a1] rfl (by (try simp only [List.map_toArray, List.map_cons, List.map_nil]); first | done | rfl | (simp only [List.length_drop, List.length_take]; rfl)) ?_; (with_reducible refine (tenorref6_isDay.calls a1 false _ A8.out).mono ?_); rintro e w' ⟨rfl, ⟨nd, rfl⟩⟩; refine ⟨_, rfl, ?_⟩))
        go_ret2
        exact ⟨by first | rfl | (simp [errW_none, errW_some] <;> rfl) | (simp [*, errW_none, errW_some] <;> rfl), by repeat (first | (with_reducible first | exact HB.out | apply below_alloc | apply pw_below_drewN | apply below_drew1 | refine below_set ?_ GE522.out) | exact HB.out)⟩
    · replace c7 := Bool.eq_false_iff.mpr c7
      subst c7
      have H1 : (some (0, 90)) = some (r1, r2) := by rw [if_neg (show ¬ (false = true) by decide)] at H; exact H
      clear H
      have H := H1
      clear H1
      simp only [Option.some.injEq, Prod.mk.injEq] at H
      obtain ⟨rfl, rfl⟩ := H
      go_enter Try.func39, Try.ntmps39
      go_wp2_with (first | ((with_reducible refine gate_dst (N := 3) rfl ?_); refine box_event ?hg (N := 3) ?hd (cs := #[.int .i64 a0_0, .slice A0_1 l0_1.length c0_1]) (t := 24) ?hr ?_; (case hd => rfl); (case hg => rfl); (case hr => first | (go_simp; done) | (go_simp; rfl)); intro gb522 hg w48 hbox hb; have n0_ := Aside0.mk (below_step (by repeat (first | (with_reducible first | exact HB.out | apply below_alloc | apply pw_below_drewN | apply below_drew1) | exact HB.out)) hb); have n1_ := Aside0.mk (hbox); have n2_ := Aside0.mk ((by rw [hg]; exact (below_size (by repeat (first | (with_reducible first | exact HB.out | apply below_alloc | apply pw_below_drewN | apply below_drew1) | exact HB.out))) : w.heap.size ≤ gb522)); have n3_ := Aside0.mk ((by rw [hg]; exact (below_size (by repeat (first | (with_reducible first | exact HB.out | apply below_alloc | apply pw_below_drewN | apply below_drew1) | exact HB.out))) : w.heap.size ≤ gb522)); clear HB; have HB := n0_; have BK522 := n1_; have GW522 := n2_; have GE522 := n3_; clear n0_ n1_ n2_ n3_; clear hb hbox hg; have hcz49_0 : w48.cell? ⟨gb522, 0, none⟩ = some (.int .i64 a0_0) := (blk_cell BK522.out 0).trans rfl; have hcz49_1 : w48.cell? ⟨gb522, 1, none⟩ = some (.slice A0_1 l0_1.length c0_1) := (blk_cell BK522.out 1).trans rfl; have hfz49_0 := blk_frozen BK522.out 0; have hfz49_1 := blk_frozen BK522.out 1) | ((with_reducible refine gate_callee (f := 45) rfl ?_); refine goesL_ (some 15) rfl rfl Try.func45 (by kernel_rfl) rfl #[.agg #[.int .i64 a0_0, .slice A0_1 l0_1.length c0_1]] rfl (by (try simp only [List.map_toArray, List.map_cons, List.map_nil]); first | done | rfl | (simp only [List.length_drop, List.length_take]; rfl)) ?_; (with_reducible refine (tenorref6_Check.calls k a0_0 _ _ l0_1 t523 t524 _ ?side1 ?side2 A4.out).mono ?_); (case side1 => repeat (first | exact (Kd.C_below HR0_1.out HB.out) | (with_reducible refine Kd.C_alloc ?_ _) | (with_reducible refine Kd.C_drewN ?_ _) | (with_reducible refine Kd.C_drew ?_))); (case side2 => exact HC0_1.out); rintro e w50 ⟨rfl, hb⟩; refine ⟨_, rfl, ?_⟩; have n0_ := Aside0.mk (blk_below (g := gb522) (o := .cells #[.int .i64 a0_0, .slice A0_1 l0_1.length c0_1] 24 (0, 0)) (by (with_reducible repeat (first | refine blk_drewN ?_ _ | refine blk_drew ?_ | refine blk_alloc ?_ _)); exact BK522.out) hb); have n1_ := Aside0.mk (below_step (by repeat (first | (with_reducible first | exact HB.out | apply below_alloc | apply pw_below_drewN | apply below_drew1 | refine below_set ?_ GE522.out) | exact HB.out)) hb); clear BK522; clear HB; have BK522 := n0_; have HB := n1_; clear n0_ n1_; (try clear hb); (try clear hb2); (try clear hk); (try clear hi)) | ((with_reducible refine gate_callee (f := 79) rfl ?_); refine goesL_ (some 22) rfl rfl Try.func79 (by kernel_rfl) rfl #[.int .i64 a2, .int .i64 0, .int .i64 4] rfl (by (try simp only [List.map_toArray, List.map_cons, List.map_nil]); first | done | rfl | (simp only [List.length_drop, List.length_take]; rfl)) ?_; (with_reducible refine (tenorref6_in.calls a2 0 4 false _ A6.out).mono ?_); rintro e w' ⟨rfl, ⟨nd, rfl⟩⟩; refine ⟨_, rfl, ?_⟩))
      go_ret2
      exact ⟨by first | rfl | (simp [errW_none, errW_some] <;> rfl) | (simp [*, errW_none, errW_some] <;> rfl), by repeat (first | (with_reducible first | exact HB.out | apply below_alloc | apply pw_below_drewN | apply below_drew1 | refine below_set ?_ GE522.out) | exact HB.out)⟩
  · rw [if_neg c5] at H
    have c5b0 : (t523 == 0) = false := beq_eq_false_iff_ne.mpr c5
    have c5b1 : (t523 != 0) = true := bne_iff_ne.mpr c5
    simp only [Option.some.injEq, Prod.mk.injEq] at H
    obtain ⟨rfl, rfl⟩ := H
    go_enter Try.func39, Try.ntmps39
    go_wp2_with (first | ((with_reducible refine gate_dst (N := 3) rfl ?_); refine box_event ?hg (N := 3) ?hd (cs := #[.int .i64 a0_0, .slice A0_1 l0_1.length c0_1]) (t := 24) ?hr ?_; (case hd => rfl); (case hg => rfl); (case hr => first | (go_simp; done) | (go_simp; rfl)); intro gb522 hg w51 hbox hb; have n0_ := Aside0.mk (below_step (by repeat (first | (with_reducible first | exact HB.out | apply below_alloc | apply pw_below_drewN | apply below_drew1) | exact HB.out)) hb); have n1_ := Aside0.mk (hbox); have n2_ := Aside0.mk ((by rw [hg]; exact (below_size (by repeat (first | (with_reducible first | exact HB.out | apply below_alloc | apply pw_below_drewN | apply below_drew1) | exact HB.out))) : w.heap.size ≤ gb522)); have n3_ := Aside0.mk ((by rw [hg]; exact (below_size (by repeat (first | (with_reducible first | exact HB.out | apply below_alloc | apply pw_below_drewN | apply below_drew1) | exact HB.out))) : w.heap.size ≤ gb522)); clear HB; have HB := n0_; have BK522 := n1_; have GW522 := n2_; have GE522 := n3_; clear n0_ n1_ n2_ n3_; clear hb hbox hg; have hcz52_0 : w51.cell? ⟨gb522, 0, none⟩ = some (.int .i64 a0_0) := (blk_cell BK522.out 0).trans rfl; have hcz52_1 : w51.cell? ⟨gb522, 1, none⟩ = some (.slice A0_1 l0_1.length c0_1) := (blk_cell BK522.out 1).trans rfl; have hfz52_0 := blk_frozen BK522.out 0; have hfz52_1 := blk_frozen BK522.out 1) | ((with_reducible refine gate_callee (f := 45) rfl ?_); refine goesL_ (some 15) rfl rfl Try.func45 (by kernel_rfl) rfl #[.agg #[.int .i64 a0_0, .slice A0_1 l0_1.length c0_1]] rfl (by (try simp only [List.map_toArray, List.map_cons, List.map_nil]); first | done | rfl | (simp only [List.length_drop, List.length_take]; rfl)) ?_; (with_reducible refine (tenorref6_Check.calls k a0_0 _ _ l0_1 t523 t524 _ ?side1 ?side2 A4.out).mono ?_); (case side1 => repeat (first | exact (Kd.C_below HR0_1.out HB.out) | (with_reducible refine Kd.C_alloc ?_ _) | (with_reducible refine Kd.C_drewN ?_ _) | (with_reducible refine Kd.C_drew ?_))); (case side2 => exact HC0_1.out); rintro e w53 ⟨rfl, hb⟩; refine ⟨_, rfl, ?_⟩; have n0_ := Aside0.mk (blk_below (g := gb522) (o := .cells #[.int .i64 a0_0, .slice A0_1 l0_1.length c0_1] 24 (0, 0)) (by (with_reducible repeat (first | refine blk_drewN ?_ _ | refine blk_drew ?_ | refine blk_alloc ?_ _)); exact BK522.out) hb); have n1_ := Aside0.mk (below_step (by repeat (first | (with_reducible first | exact HB.out | apply below_alloc | apply pw_below_drewN | apply below_drew1 | refine below_set ?_ GE522.out) | exact HB.out)) hb); clear BK522; clear HB; have BK522 := n0_; have HB := n1_; clear n0_ n1_; (try clear hb); (try clear hb2); (try clear hk); (try clear hi)))
    go_ret2
    exact ⟨by first | rfl | (simp [errW_none, errW_some] <;> rfl) | (simp [*, errW_none, errW_some] <;> rfl), by repeat (first | (with_reducible first | exact HB.out | apply below_alloc | apply pw_below_drewN | apply below_drew1 | refine below_set ?_ GE522.out) | exact HB.out)⟩

end Go.Proofs.Ytoncignjcgjhhaa.Q
