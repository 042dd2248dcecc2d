/- Contracts and facts of functions of the program (calendar, dates and their documents), joined in one text by a program of this session. No condition but what each theorem states. -/
import Derived.Test.YtoncignjcgjhhaaZGA
import Derived.Test.YtoncignjcgjhhaaZGF
import Derived.Test.YtoncignjcgjhhaaZGG
import Derived.Test.YtoncignjcgjhhaaZGI
import Derived.Test.YtoncignjcgjhhaaZGJ
import Derived.Test.YtoncignjcgjhhaaZGD
set_option linter.unusedVariables false
set_option linter.unusedSimpArgs false
namespace Go.Proofs.Ytoncignjcgjhhaa.Q
open Go.RowKit Go.Proofs.YtoncignjcgjhhaaW.PrintWords Go.Proofs.YtoncignjcgjhhaaW.PrintLast Go.Proofs.YtoncignjcgjhhaaW.PrintMore
attribute [local go_sem] max2_int min2_int max_two min_two max_three min_three max_four min_four   -- for this text's walks alone
set_option linter.unusedVariables false
set_option linter.unusedSimpArgs false

/-! ### tenorref6_open: function 74 -/
def tenorref6_open.f (k : Nat) (a0_0 : Int) (l0_1 : List (S63)) (a1 : Int) : Option (Bool) := (tenorref6_off.f a0_0 l0_1 a1).bind fun t230 => (if t230 = true then (some false) else ((tenorref6_holiday.f k a0_0 l0_1 a1).bind fun t231 => (some (!t231))))
theorem tenorref6_open.mono : ∀ a0 a1 a2 k, LeO (tenorref6_open.f k a0 a1 a2) (tenorref6_open.f (k + 1) a0 a1 a2) := by
  intro a0 a1 a2 k
  unfold tenorref6_open.f
  repeat' first
      | (with_reducible exact tenorref6_holiday.mono _ _ _ _)
      | (with_reducible exact LeO.refl _)
      | (with_reducible exact LeO.none _)
      | (with_reducible refine LeO.ite ?_ ?_)
      | (with_reducible refine LeO.bind ?_ (fun _ => ?_))
      | exact tenorref6_holiday.mono _ _ _ _
      | exact LeO.none _
      | refine LeO.ite ?_ ?_
      | refine LeO.bind ?_ (fun _ => ?_)
set_option maxHeartbeats 8000000 in
set_option maxRecDepth 100000 in
theorem tenorref6_open.calls (k : Nat) (a0_0 : Int) (A0_1 : Option Addr) (c0_1 : Nat) (l0_1 : List (S63)) (a1 : Int) (r : Bool) (w : World) (hr0_1 : Kd.C k63 w A0_1 l0_1.length l0_1) (hc0_1 : l0_1.length ≤ c0_1) (h : tenorref6_open.f k a0_0 l0_1 a1 = some r) :
    Calls Try.prog 74 #[.agg #[.int .i64 a0_0, .slice A0_1 l0_1.length c0_1], .int .i64 a1] w fun e w' => e = .returned (.bool r) ∧ Below w.heap.size w w' := by
  have hu24 := Try.underlying24
  have HR0_1 := Aside0.mk hr0_1
  have HC0_1 := Aside0.mk hc0_1
  clear hr0_1 hc0_1
  have HB := Aside0.mk (Below.refl w.heap.size w)
  have H : ((tenorref6_off.f a0_0 l0_1 a1).bind fun t230 => (if t230 = true then (some false) else ((tenorref6_holiday.f k a0_0 l0_1 a1).bind fun t231 => (some (!t231))))) = some r := h
  clear h
  replace H := Option.bind_eq_some_iff.mp H
  obtain ⟨t230, A30, H⟩ := H
  replace H : (if t230 = true then (some false) else ((tenorref6_holiday.f k a0_0 l0_1 a1).bind fun t231 => (some (!t231)))) = some r := H
  have A3 := Aside0.mk A30
  clear A30
  by_cases c4 : t230 = true
  · subst c4
    have H1 : (some false) = some r := by rw [if_pos rfl] at H; exact H
    clear H
    have H := H1
    clear H1
    obtain rfl := Option.some.inj H
    go_enter Try.func74, Try.ntmps74
    go_wp2_with (first | ((with_reducible refine gate_dst (N := 2) rfl ?_); refine box_event ?hg (N := 2) ?hd (cs := #[.int .i64 a0_0, .slice A0_1 l0_1.length c0_1]) (t := 24) ?hr ?_; (case hd => rfl); (case hg => rfl); (case hr => first | (go_simp; done) | (go_simp; rfl)); intro gb229 hg w5 hbox hb; have n0_ := Aside0.mk (below_step (by repeat (first | (with_reducible first | exact HB.out | apply below_alloc | apply pw_below_drewN | apply below_drew1) | exact HB.out)) hb); have n1_ := Aside0.mk (hbox); have n2_ := Aside0.mk ((by rw [hg]; exact (below_size (by repeat (first | (with_reducible first | exact HB.out | apply below_alloc | apply pw_below_drewN | apply below_drew1) | exact HB.out))) : w.heap.size ≤ gb229)); have n3_ := Aside0.mk ((by rw [hg]; exact (below_size (by repeat (first | (with_reducible first | exact HB.out | apply below_alloc | apply pw_below_drewN | apply below_drew1) | exact HB.out))) : w.heap.size ≤ gb229)); clear HB; have HB := n0_; have BK229 := n1_; have GW229 := n2_; have GE229 := n3_; clear n0_ n1_ n2_ n3_; clear hb hbox hg; have hcz6_0 : w5.cell? ⟨gb229, 0, none⟩ = some (.int .i64 a0_0) := (blk_cell BK229.out 0).trans rfl; have hcz6_1 : w5.cell? ⟨gb229, 1, none⟩ = some (.slice A0_1 l0_1.length c0_1) := (blk_cell BK229.out 1).trans rfl; have hfz6_0 := blk_frozen BK229.out 0; have hfz6_1 := blk_frozen BK229.out 1) | ((with_reducible refine gate_callee (f := 108) rfl ?_); refine goesL_ (some 7) rfl rfl Try.func108 (by kernel_rfl) rfl #[.agg #[.int .i64 a0_0, .slice A0_1 l0_1.length c0_1], .int .i64 a1] rfl (by (try simp only [List.map_toArray, List.map_cons, List.map_nil]); first | done | rfl | (simp only [List.length_drop, List.length_take]; rfl)) ?_; (with_reducible refine (tenorref6_off.calls a0_0 _ _ l0_1 a1 true _ ?side1 ?side2 A3.out).mono ?_); (case side1 => repeat (first | exact (Kd.C_below HR0_1.out HB.out) | (with_reducible refine Kd.C_alloc ?_ _) | (with_reducible refine Kd.C_drewN ?_ _) | (with_reducible refine Kd.C_drew ?_))); (case side2 => exact HC0_1.out); rintro e w7 ⟨rfl, hb⟩; refine ⟨_, rfl, ?_⟩; have n0_ := Aside0.mk (blk_below (g := gb229) (o := .cells #[.int .i64 a0_0, .slice A0_1 l0_1.length c0_1] 24 (0, 0)) (by (with_reducible repeat (first | refine blk_drewN ?_ _ | refine blk_drew ?_ | refine blk_alloc ?_ _)); exact BK229.out) hb); have n1_ := Aside0.mk (below_step (by repeat (first | (with_reducible first | exact HB.out | apply below_alloc | apply pw_below_drewN | apply below_drew1 | refine below_set ?_ GE229.out) | exact HB.out)) hb); clear BK229; clear HB; have BK229 := n0_; have HB := n1_; clear n0_ n1_; (try clear hb); (try clear hb2); (try clear hk); (try clear hi)))
    go_ret
    exact ⟨by first | rfl | (simp [errW_none, errW_some] <;> rfl) | (simp [*, errW_none, errW_some] <;> rfl), by repeat (first | (with_reducible first | exact HB.out | apply below_alloc | apply pw_below_drewN | apply below_drew1 | refine below_set ?_ GE229.out) | exact HB.out)⟩
  · replace c4 := Bool.eq_false_iff.mpr c4
    subst c4
    have H1 : ((tenorref6_holiday.f k a0_0 l0_1 a1).bind fun t231 => (some (!t231))) = some r := by rw [if_neg (show ¬ (false = true) by decide)] at H; exact H
    clear H
    have H := H1
    clear H1
    replace H := Option.bind_eq_some_iff.mp H
    obtain ⟨t231, A80, H⟩ := H
    replace H : (some (!t231)) = some r := H
    have A8 := Aside0.mk A80
    clear A80
    obtain rfl := Option.some.inj H
    go_enter Try.func74, Try.ntmps74
    go_wp2_with (first | ((with_reducible refine gate_dst (N := 2) rfl ?_); refine box_event ?hg (N := 2) ?hd (cs := #[.int .i64 a0_0, .slice A0_1 l0_1.length c0_1]) (t := 24) ?hr ?_; (case hd => rfl); (case hg => rfl); (case hr => first | (go_simp; done) | (go_simp; rfl)); intro gb229 hg w9 hbox hb; have n0_ := Aside0.mk (below_step (by repeat (first | (with_reducible first | exact HB.out | apply below_alloc | apply pw_below_drewN | apply below_drew1) | exact HB.out)) hb); have n1_ := Aside0.mk (hbox); have n2_ := Aside0.mk ((by rw [hg]; exact (below_size (by repeat (first | (with_reducible first | exact HB.out | apply below_alloc | apply pw_below_drewN | apply below_drew1) | exact HB.out))) : w.heap.size ≤ gb229)); have n3_ := Aside0.mk ((by rw [hg]; exact (below_size (by repeat (first | (with_reducible first | exact HB.out | apply below_alloc | apply pw_below_drewN | apply below_drew1) | exact HB.out))) : w.heap.size ≤ gb229)); clear HB; have HB := n0_; have BK229 := n1_; have GW229 := n2_; have GE229 := n3_; clear n0_ n1_ n2_ n3_; clear hb hbox hg; have hcz10_0 : w9.cell? ⟨gb229, 0, none⟩ = some (.int .i64 a0_0) := (blk_cell BK229.out 0).trans rfl; have hcz10_1 : w9.cell? ⟨gb229, 1, none⟩ = some (.slice A0_1 l0_1.length c0_1) := (blk_cell BK229.out 1).trans rfl; have hfz10_0 := blk_frozen BK229.out 0; have hfz10_1 := blk_frozen BK229.out 1) | ((with_reducible refine gate_callee (f := 108) rfl ?_); refine goesL_ (some 7) rfl rfl Try.func108 (by kernel_rfl) rfl #[.agg #[.int .i64 a0_0, .slice A0_1 l0_1.length c0_1], .int .i64 a1] rfl (by (try simp only [List.map_toArray, List.map_cons, List.map_nil]); first | done | rfl | (simp only [List.length_drop, List.length_take]; rfl)) ?_; (with_reducible refine (tenorref6_off.calls a0_0 _ _ l0_1 a1 false _ ?side1 ?side2 A3.out).mono ?_); (case side1 => repeat (first | exact (Kd.C_below HR0_1.out HB.out) | (with_reducible refine Kd.C_alloc ?_ _) | (with_reducible refine Kd.C_drewN ?_ _) | (with_reducible refine Kd.C_drew ?_))); (case side2 => exact HC0_1.out); rintro e w11 ⟨rfl, hb⟩; refine ⟨_, rfl, ?_⟩; have n0_ := Aside0.mk (blk_below (g := gb229) (o := .cells #[.int .i64 a0_0, .slice A0_1 l0_1.length c0_1] 24 (0, 0)) (by (with_reducible repeat (first | refine blk_drewN ?_ _ | refine blk_drew ?_ | refine blk_alloc ?_ _)); exact BK229.out) hb); have n1_ := Aside0.mk (below_step (by repeat (first | (with_reducible first | exact HB.out | apply below_alloc | apply pw_below_drewN | apply below_drew1 | refine below_set ?_ GE229.out) | exact HB.out)) hb); clear BK229; clear HB; have BK229 := n0_; have HB := n1_; clear n0_ n1_; (try clear hb); (try clear hb2); (try clear hk); (try clear hi); have hcz12_0 : w11.cell? ⟨gb229, 0, none⟩ = some (.int .i64 a0_0) := (blk_cell BK229.out 0).trans rfl; have hcz12_1 : w11.cell? ⟨gb229, 1, none⟩ = some (.slice A0_1 l0_1.length c0_1) := (blk_cell BK229.out 1).trans rfl; have hfz12_0 := blk_frozen BK229.out 0; have hfz12_1 := blk_frozen BK229.out 1) | (go_at_call 76; (with_reducible refine (tenorref6_holiday.calls k a0_0 _ _ l0_1 a1 t231 _ ?side1 ?side2 A8.out).mono ?_); (case side1 => repeat (first | exact (Kd.C_below HR0_1.out HB.out) | (with_reducible refine Kd.C_alloc ?_ _) | (with_reducible refine Kd.C_drewN ?_ _) | (with_reducible refine Kd.C_drew ?_))); (case side2 => exact HC0_1.out); rintro e w13 ⟨rfl, hb⟩; have n0_ := Aside0.mk (blk_below (g := gb229) (o := .cells #[.int .i64 a0_0, .slice A0_1 l0_1.length c0_1] 24 (0, 0)) (by (with_reducible repeat (first | refine blk_drewN ?_ _ | refine blk_drew ?_ | refine blk_alloc ?_ _)); exact BK229.out) hb); have n1_ := Aside0.mk (below_step (by repeat (first | (with_reducible first | exact HB.out | apply below_alloc | apply pw_below_drewN | apply below_drew1 | refine below_set ?_ GE229.out) | exact HB.out)) hb); clear BK229; clear HB; have BK229 := n0_; have HB := n1_; clear n0_ n1_; (try clear hb); (try clear hb2); (try clear hk); (try clear hi)))
    go_ret
    exact ⟨by first | rfl | (simp [errW_none, errW_some] <;> rfl) | (simp [*, errW_none, errW_some] <;> rfl), by repeat (first | (with_reducible first | exact HB.out | apply below_alloc | apply pw_below_drewN | apply below_drew1 | refine below_set ?_ GE229.out) | exact HB.out)⟩

/-! ### tenorref6_isDay: function 80 -/
def tenorref6_isDay.f (a0 : Int) : Option (Bool) := (tenorref6_in.f a0 0 109572).bind fun t232 => (some t232)
set_option maxHeartbeats 8000000 in
set_option maxRecDepth 100000 in
theorem tenorref6_isDay.calls (a0 : Int) (r : Bool) (w : World) (h : tenorref6_isDay.f a0 = some r) :
    Calls Try.prog 80 #[.int .i64 a0] w fun e w' => e = .returned (.bool r) ∧ Drawn0 w w' := by
  have H : ((tenorref6_in.f a0 0 109572).bind fun t232 => (some t232)) = some r := h
  clear h
  replace H := Option.bind_eq_some_iff.mp H
  obtain ⟨t232, A20, H⟩ := H
  replace H : (some t232) = some r := H
  have A2 := Aside0.mk A20
  clear A20
  obtain rfl := Option.some.inj H
  go_enter Try.func80, Try.ntmps80
  go_wp2_with (first | ((with_reducible refine gate_callee (f := 79) rfl ?_); refine goesL_ (some 4) rfl rfl Try.func79 (by kernel_rfl) rfl #[.int .i64 a0, .int .i64 0, .int .i64 109572] rfl (by (try simp only [List.map_toArray, List.map_cons, List.map_nil]); first | done | rfl | (simp only [List.length_drop, List.length_take]; rfl)) ?_; (with_reducible refine (tenorref6_in.calls a0 0 109572 t232 _ A2.out).mono ?_); rintro e w' ⟨rfl, ⟨nd, rfl⟩⟩; refine ⟨_, rfl, ?_⟩))
  go_ret
  exact ⟨by first | rfl | (simp; done) | (simp [*]; done), by repeat (first | exact Drawn0.refl _ | apply Drawn0.step)⟩

/-! ### tenorref6_Count: function 43 -/
mutual
def tenorref6_Count.j0 : Nat → Int → Int → Bool → Int → List (S63) → Option (Int × Int)
  | 0, _, _, _, _, _ => none
  | k + 1, x1, x2, x29, x234000, x234001 => if x29 = true then (some (0, 51)) else (if x2 < x1 then ((tenorref6_Count.f k x234000 x234001 x2 x1).bind fun bt238 => (some (wrap64 (-bt238.1), bt238.2))) else (tenorref6_Count.l0 k x2 0 x1 x234000 x234001))
def tenorref6_Count.l0 : Nat → Int → Int → Int → Int → List (S63) → Option (Int × Int)
  | 0, _, _, _, _, _ => none
  | k + 1, x2, x12, x13, x234000, x234001 => if x13 < x2 then ((tenorref6_open.f k x234000 x234001 x13).bind fun t240 => (if t240 = true then (tenorref6_Count.l0 k x2 (wrap64 (x12 + 1)) (wrap64 (x13 + 1)) x234000 x234001) else (tenorref6_Count.l0 k x2 x12 (wrap64 (x13 + 1)) x234000 x234001))) else (some (x12, 0))
def tenorref6_Count.f : Nat → Int → List (S63) → Int → Int → Option (Int × Int)
  | 0, _, _, _, _ => none
  | k + 1, a0_0, l0_1, a1, a2 => (tenorref6_Check.f k a0_0 l0_1).bind fun bt234 => (if bt234.1 = 0 then ((tenorref6_isDay.f a1).bind fun t236 => (if t236 = true then ((tenorref6_isDay.f a2).bind fun t237 => (tenorref6_Count.j0 k a1 a2 (!t237) a0_0 l0_1)) else (tenorref6_Count.j0 k a1 a2 true a0_0 l0_1))) else (some (0, bt234.1)))
end
theorem tenorref6_Count.mono_l : ∀ k, (∀ y0 y1 y2 y3, LeO (tenorref6_Count.f k y0 y1 y2 y3) (tenorref6_Count.f (k + 1) y0 y1 y2 y3)) ∧ (∀ y0 y1 y2 y3 y4, LeO (tenorref6_Count.j0 k y0 y1 y2 y3 y4) (tenorref6_Count.j0 (k + 1) y0 y1 y2 y3 y4)) ∧ (∀ y0 y1 y2 y3 y4, LeO (tenorref6_Count.l0 k y0 y1 y2 y3 y4) (tenorref6_Count.l0 (k + 1) y0 y1 y2 y3 y4))
  | 0 => ⟨fun _ _ _ _ r h => by simp [tenorref6_Count.f] at h, fun _ _ _ _ _ r h => by simp [tenorref6_Count.j0] at h, fun _ _ _ _ _ r h => by simp [tenorref6_Count.l0] at h⟩
  | k + 1 => by
    obtain ⟨ih0, ih1, ih2⟩ := tenorref6_Count.mono_l k
    refine ⟨?_, ?_, ?_⟩
    · intro y0 y1 y2 y3
      unfold tenorref6_Count.f
      repeat' first
      | (with_reducible exact ih0 _ _ _ _)
      | (with_reducible exact ih1 _ _ _ _ _)
      | (with_reducible exact ih2 _ _ _ _ _)
      | (with_reducible exact tenorref6_Check.mono _ _ _)
      | (with_reducible exact tenorref6_open.mono _ _ _ _)
      | (with_reducible exact LeO.refl _)
      | (with_reducible exact LeO.none _)
      | (with_reducible refine LeO.ite ?_ ?_)
      | (with_reducible refine LeO.bind ?_ (fun _ => ?_))
      | exact ih0 _ _ _ _
      | exact ih1 _ _ _ _ _
      | exact ih2 _ _ _ _ _
      | exact tenorref6_Check.mono _ _ _
      | exact tenorref6_open.mono _ _ _ _
      | exact LeO.none _
      | refine LeO.ite ?_ ?_
      | refine LeO.bind ?_ (fun _ => ?_)
    · intro y0 y1 y2 y3 y4
      unfold tenorref6_Count.j0
      repeat' first
      | (with_reducible exact ih0 _ _ _ _)
      | (with_reducible exact ih1 _ _ _ _ _)
      | (with_reducible exact ih2 _ _ _ _ _)
      | (with_reducible exact tenorref6_Check.mono _ _ _)
      | (with_reducible exact tenorref6_open.mono _ _ _ _)
      | (with_reducible exact LeO.refl _)
      | (with_reducible exact LeO.none _)
      | (with_reducible refine LeO.ite ?_ ?_)
      | (with_reducible refine LeO.bind ?_ (fun _ => ?_))
      | exact ih0 _ _ _ _
      | exact ih1 _ _ _ _ _
      | exact ih2 _ _ _ _ _
      | exact tenorref6_Check.mono _ _ _
      | exact tenorref6_open.mono _ _ _ _
      | exact LeO.none _
      | refine LeO.ite ?_ ?_
      | refine LeO.bind ?_ (fun _ => ?_)
    · intro y0 y1 y2 y3 y4
      unfold tenorref6_Count.l0
      repeat' first
      | (with_reducible exact ih0 _ _ _ _)
      | (with_reducible exact ih1 _ _ _ _ _)
      | (with_reducible exact ih2 _ _ _ _ _)
      | (with_reducible exact tenorref6_Check.mono _ _ _)
      | (with_reducible exact tenorref6_open.mono _ _ _ _)
      | (with_reducible exact LeO.refl _)
      | (with_reducible exact LeO.none _)
      | (with_reducible refine LeO.ite ?_ ?_)
      | (with_reducible refine LeO.bind ?_ (fun _ => ?_))
      | exact ih0 _ _ _ _
      | exact ih1 _ _ _ _ _
      | exact ih2 _ _ _ _ _
      | exact tenorref6_Check.mono _ _ _
      | exact tenorref6_open.mono _ _ _ _
      | exact LeO.none _
      | refine LeO.ite ?_ ?_
      | refine LeO.bind ?_ (fun _ => ?_)
theorem tenorref6_Count.mono : ∀ a0 a1 a2 a3 k, LeO (tenorref6_Count.f k a0 a1 a2 a3) (tenorref6_Count.f (k + 1) a0 a1 a2 a3) := by
  intro a0 a1 a2 a3 k
  obtain ⟨ih0, ih1, ih2⟩ := tenorref6_Count.mono_l k
  exact ih0 a0 a1 a2 a3
set_option maxHeartbeats 8000000 in
set_option maxRecDepth 100000 in
theorem tenorref6_Count.calls (k : Nat) : ∀ (a0_0 : Int) (A0_1 : Option Addr) (c0_1 : Nat) (l0_1 : List (S63)) (a1 : Int) (a2 : Int) (r1 : Int) (r2 : Int) (w : World) (hr0_1 : Kd.C k63 w A0_1 l0_1.length l0_1) (hc0_1 : l0_1.length ≤ c0_1) (h : tenorref6_Count.f k a0_0 l0_1 a1 a2 = some (r1, r2)),
    Calls Try.prog 43 #[.agg #[.int .i64 a0_0, .slice A0_1 l0_1.length c0_1], .int .i64 a1, .int .i64 a2] w fun e w' => e = .returned (.tuple #[.int .i64 r1, .int .i64 r2]) ∧ Below w.heap.size w w' := by
  induction k using Nat.strongRecOn with
  | _ k ih =>
  intro a0_0 A0_1 c0_1 l0_1 a1 a2 r1 r2 w hr0_1 hc0_1 h
  cases k with
  | zero => exact absurd h (by simp [tenorref6_Count.f])
  | succ k =>
  simp only [tenorref6_Count.f] at h
  have hu24 := Try.underlying24
  have HR0_1 := Aside0.mk hr0_1
  have HC0_1 := Aside0.mk hc0_1
  clear hr0_1 hc0_1
  have HB := Aside0.mk (Below.refl w.heap.size w)
  have H : ((tenorref6_Check.f k a0_0 l0_1).bind fun bt234 => (if bt234.1 = 0 then ((tenorref6_isDay.f a1).bind fun t236 => (if t236 = true then ((tenorref6_isDay.f a2).bind fun t237 => (tenorref6_Count.j0 k a1 a2 (!t237) a0_0 l0_1)) else (tenorref6_Count.j0 k a1 a2 true a0_0 l0_1))) else (some (0, bt234.1)))) = some (r1, r2) := h
  clear h
  replace H := Option.bind_eq_some_iff.mp H
  obtain ⟨⟨t234, t235⟩, A40, H⟩ := H
  replace H : (if t234 = 0 then ((tenorref6_isDay.f a1).bind fun t236 => (if t236 = true then ((tenorref6_isDay.f a2).bind fun t237 => (tenorref6_Count.j0 k a1 a2 (!t237) a0_0 l0_1)) else (tenorref6_Count.j0 k a1 a2 true a0_0 l0_1))) else (some (0, t234))) = some (r1, r2) := H
  have A4 := Aside0.mk A40
  clear A40
  by_cases c5 : t234 = 0
  · rw [if_pos c5] at H
    have c5b0 : (t234 == 0) = true := beq_iff_eq.mpr c5
    have c5b1 : (t234 != 0) = false := bne_eq_false_iff_eq.mpr c5
    clear c5
    have HC6 := Aside0.mk H
    clear H
    go_enter Try.func43, Try.ntmps43
    go_upto_region 4 with (first | ((with_reducible refine gate_dst (N := 3) rfl ?_); refine box_event ?hg (N := 3) ?hd (cs := #[.int .i64 a0_0, .slice A0_1 l0_1.length c0_1]) (t := 24) ?hr ?_; (case hd => rfl); (case hg => rfl); (case hr => first | (go_simp; done) | (go_simp; rfl)); intro gb233 hg w7 hbox hb; have n0_ := Aside0.mk (below_step (by repeat (first | (with_reducible first | exact HB.out | apply below_alloc | apply pw_below_drewN | apply below_drew1) | exact HB.out)) hb); have n1_ := Aside0.mk (hbox); have n2_ := Aside0.mk ((by rw [hg]; exact (below_size (by repeat (first | (with_reducible first | exact HB.out | apply below_alloc | apply pw_below_drewN | apply below_drew1) | exact HB.out))) : w.heap.size ≤ gb233)); have n3_ := Aside0.mk ((by rw [hg]; exact (below_size (by repeat (first | (with_reducible first | exact HB.out | apply below_alloc | apply pw_below_drewN | apply below_drew1) | exact HB.out))) : w.heap.size ≤ gb233)); clear HB; have HB := n0_; have BK233 := n1_; have GW233 := n2_; have GE233 := n3_; clear n0_ n1_ n2_ n3_; clear hb hbox hg; have hcz8_0 : w7.cell? ⟨gb233, 0, none⟩ = some (.int .i64 a0_0) := (blk_cell BK233.out 0).trans rfl; have hcz8_1 : w7.cell? ⟨gb233, 1, none⟩ = some (.slice A0_1 l0_1.length c0_1) := (blk_cell BK233.out 1).trans rfl; have hfz8_0 := blk_frozen BK233.out 0; have hfz8_1 := blk_frozen BK233.out 1) | ((with_reducible refine gate_callee (f := 45) rfl ?_); refine goesL_ (some 16) rfl rfl Try.func45 (by kernel_rfl) rfl #[.agg #[.int .i64 a0_0, .slice A0_1 l0_1.length c0_1]] rfl (by (try simp only [List.map_toArray, List.map_cons, List.map_nil]); first | done | rfl | (simp only [List.length_drop, List.length_take]; rfl)) ?_; (with_reducible refine (tenorref6_Check.calls k a0_0 _ _ l0_1 t234 t235 _ ?side1 ?side2 A4.out).mono ?_); (case side1 => repeat (first | exact (Kd.C_below HR0_1.out HB.out) | (with_reducible refine Kd.C_alloc ?_ _) | (with_reducible refine Kd.C_drewN ?_ _) | (with_reducible refine Kd.C_drew ?_))); (case side2 => exact HC0_1.out); rintro e w9 ⟨rfl, hb⟩; refine ⟨_, rfl, ?_⟩; have n0_ := Aside0.mk (blk_below (g := gb233) (o := .cells #[.int .i64 a0_0, .slice A0_1 l0_1.length c0_1] 24 (0, 0)) (by (with_reducible repeat (first | refine blk_drewN ?_ _ | refine blk_drew ?_ | refine blk_alloc ?_ _)); exact BK233.out) hb); have n1_ := Aside0.mk (below_step (by repeat (first | (with_reducible first | exact HB.out | apply below_alloc | apply pw_below_drewN | apply below_drew1 | refine below_set ?_ GE233.out) | exact HB.out)) hb); clear BK233; clear HB; have BK233 := n0_; have HB := n1_; clear n0_ n1_; (try clear hb); (try clear hb2); (try clear hk); (try clear hi)))
    (try simp only [Act.put, List.setIfInBounds_toArray, List.set_cons_zero, List.set_cons_succ])
    go_cut [29] (fun v29 wc => ∃ (kq : Nat) (x29_5 : Bool), v29 = .bool x29_5 ∧ Aside0 (tenorref6_Count.j0 kq a1 a2 x29_5 a0_0 l0_1 = some (r1, r2)) ∧ Aside0 (kq ≤ k) ∧ Aside0 (wc.heap[gb233]? = some (.cells #[.int .i64 a0_0, (.slice A0_1 l0_1.length c0_1)] 24 (0, 0))) ∧ Aside0 (Below w.heap.size w wc))
    case first =>
      have H := HC6.out
      clear HC6
      replace H := Option.bind_eq_some_iff.mp H
      obtain ⟨t236, A100, H⟩ := H
      replace H : (if t236 = true then ((tenorref6_isDay.f a2).bind fun t237 => (tenorref6_Count.j0 k a1 a2 (!t237) a0_0 l0_1)) else (tenorref6_Count.j0 k a1 a2 true a0_0 l0_1)) = some (r1, r2) := H
      have A10 := Aside0.mk A100
      clear A100
      by_cases c11 : t236 = true
      · subst c11
        have H1 : ((tenorref6_isDay.f a2).bind fun t237 => (tenorref6_Count.j0 k a1 a2 (!t237) a0_0 l0_1)) = some (r1, r2) := by rw [if_pos rfl] at H; exact H
        clear H
        have H := H1
        clear H1
        replace H := Option.bind_eq_some_iff.mp H
        obtain ⟨t237, A120, H⟩ := H
        replace H : (tenorref6_Count.j0 k a1 a2 (!t237) a0_0 l0_1) = some (r1, r2) := H
        have A12 := Aside0.mk A120
        clear A120
        have H' := Aside0.mk H
        clear H
        go_wp2_with (first | ((with_reducible refine gate_callee (f := 80) rfl ?_); refine goesL_ (some 23) rfl rfl Try.func80 (by kernel_rfl) rfl #[.int .i64 a1] rfl (by (try simp only [List.map_toArray, List.map_cons, List.map_nil]); first | done | rfl | (simp only [List.length_drop, List.length_take]; rfl)) ?_; (with_reducible refine (tenorref6_isDay.calls a1 true _ A10.out).mono ?_); rintro e w' ⟨rfl, ⟨nd, rfl⟩⟩; refine ⟨_, rfl, ?_⟩) | (go_at_call 80; (with_reducible refine (tenorref6_isDay.calls a2 t237 _ A12.out).mono ?_); rintro e w' ⟨rfl, ⟨nd, rfl⟩⟩))
        go_meet
        case rel => exact ⟨_, (!t237), (by first | rfl | (simp; done) | (simp [*]; done)), H', ⟨by first | omega | exact Nat.le_refl _⟩, ⟨by (with_reducible repeat (first | refine blk_drewN ?_ _ | refine blk_drew ?_ | refine blk_alloc ?_ _)); exact BK233.out⟩, ⟨by repeat (first | (with_reducible first | exact HB.out | apply below_alloc | apply pw_below_drewN | apply below_drew1 | refine below_set ?_ GE233.out) | exact HB.out)⟩⟩
      · replace c11 := Bool.eq_false_iff.mpr c11
        subst c11
        have H1 : (tenorref6_Count.j0 k a1 a2 true a0_0 l0_1) = some (r1, r2) := by rw [if_neg (show ¬ (false = true) by decide)] at H; exact H
        clear H
        have H := H1
        clear H1
        have H' := Aside0.mk H
        clear H
        go_wp2_with (first | ((with_reducible refine gate_callee (f := 80) rfl ?_); refine goesL_ (some 23) rfl rfl Try.func80 (by kernel_rfl) rfl #[.int .i64 a1] rfl (by (try simp only [List.map_toArray, List.map_cons, List.map_nil]); first | done | rfl | (simp only [List.length_drop, List.length_take]; rfl)) ?_; (with_reducible refine (tenorref6_isDay.calls a1 false _ A10.out).mono ?_); rintro e w' ⟨rfl, ⟨nd, rfl⟩⟩; refine ⟨_, rfl, ?_⟩))
        go_meet
        case rel => exact ⟨_, (true), (by first | rfl | (simp; done) | (simp [*]; done)), H', ⟨by first | omega | exact Nat.le_refl _⟩, ⟨by (with_reducible repeat (first | refine blk_drewN ?_ _ | refine blk_drew ?_ | refine blk_alloc ?_ _)); exact BK233.out⟩, ⟨by repeat (first | (with_reducible first | exact HB.out | apply below_alloc | apply pw_below_drewN | apply below_drew1 | refine below_set ?_ GE233.out) | exact HB.out)⟩⟩
    case rest =>
      clear HC6
      try clear c1
      try clear p2
      try clear c4
      try clear c5
      try clear c5b0
      try clear c5b1
      try clear c8
      try clear c11
      try clear hcz8_0
      try clear hcz8_1
      try clear hfz8_0
      try clear hfz8_1
      obtain ⟨kq, x29_5, rfl, HA, HJ5, BK233, HB⟩ := hcut
      cases kq with
      | zero => exact absurd HA.out (by simp [tenorref6_Count.j0])
      | succ kj5 =>
        have H := HA.out
        clear HA
        simp only [tenorref6_Count.j0] at H
        by_cases c13 : x29_5 = true
        · subst c13
          have H1 : (some (0, 51)) = some (r1, r2) := by rw [if_pos rfl] at H; exact H
          clear H
          have H := H1
          clear H1
          simp only [Option.some.injEq, Prod.mk.injEq] at H
          obtain ⟨rfl, rfl⟩ := H
          go_wp2
          go_ret2
          exact ⟨by first | rfl | (simp [errW_none, errW_some] <;> rfl) | (simp [*, errW_none, errW_some] <;> rfl), by repeat (first | (with_reducible first | exact HB.out | apply below_alloc | apply pw_below_drewN | apply below_drew1 | refine below_set ?_ GE233.out) | exact HB.out)⟩
        · replace c13 := Bool.eq_false_iff.mpr c13
          subst c13
          have H1 : (if a2 < a1 then ((tenorref6_Count.f kj5 a0_0 l0_1 a2 a1).bind fun bt238 => (some (wrap64 (-bt238.1), bt238.2))) else (tenorref6_Count.l0 kj5 a2 0 a1 a0_0 l0_1)) = some (r1, r2) := by rw [if_neg (show ¬ (false = true) by decide)] at H; exact H
          clear H
          have H := H1
          clear H1
          by_cases c14 : a2 < a1
          · rw [if_pos c14] at H
            have c14b0 : decide (a2 < a1) = true := decide_eq_true c14
            clear c14
            replace H := Option.bind_eq_some_iff.mp H
            obtain ⟨⟨t238, t239⟩, A150, H⟩ := H
            replace H : (some (wrap64 (-t238), t239)) = some (r1, r2) := H
            have A15 := Aside0.mk A150
            clear A150
            simp only [Option.some.injEq, Prod.mk.injEq] at H
            obtain ⟨rfl, rfl⟩ := H
            have hcz16_0 : wc.cell? ⟨gb233, 0, none⟩ = some (.int .i64 a0_0) := (blk_cell BK233.out 0).trans rfl
            have hcz16_1 : wc.cell? ⟨gb233, 1, none⟩ = some (.slice A0_1 l0_1.length c0_1) := (blk_cell BK233.out 1).trans rfl
            have hfz16_0 := blk_frozen BK233.out 0
            have hfz16_1 := blk_frozen BK233.out 1
            go_wp2_with (first | ((with_reducible refine gate_callee (f := 43) rfl ?_); refine goesL_ (some 37) rfl rfl Try.func43 (by kernel_rfl) rfl #[.agg #[.int .i64 a0_0, .slice A0_1 l0_1.length c0_1], .int .i64 a2, .int .i64 a1] rfl (by (try simp only [List.map_toArray, List.map_cons, List.map_nil]); first | done | rfl | (simp only [List.length_drop, List.length_take]; rfl)) ?_; (with_reducible refine (ih kj5 (by have := HJ5.out; omega) a0_0 _ _ l0_1 a2 a1 t238 t239 _ ?side1 ?side2 A15.out).mono ?_); (case side1 => repeat (first | exact (Kd.C_below HR0_1.out HB.out) | (with_reducible refine Kd.C_alloc ?_ _) | (with_reducible refine Kd.C_drewN ?_ _) | (with_reducible refine Kd.C_drew ?_))); (case side2 => exact HC0_1.out); rintro e w17 ⟨rfl, hb⟩; refine ⟨_, rfl, ?_⟩; have n0_ := Aside0.mk (blk_below (g := gb233) (o := .cells #[.int .i64 a0_0, .slice A0_1 l0_1.length c0_1] 24 (0, 0)) (by (with_reducible repeat (first | refine blk_drewN ?_ _ | refine blk_drew ?_ | refine blk_alloc ?_ _)); exact BK233.out) hb); have n1_ := Aside0.mk (below_step (by repeat (first | (with_reducible first | exact HB.out | apply below_alloc | apply pw_below_drewN | apply below_drew1 | refine below_set ?_ GE233.out) | exact HB.out)) hb); clear BK233; clear HB; have BK233 := n0_; have HB := n1_; clear n0_ n1_; (try clear hb); (try clear hb2); (try clear hk); (try clear hi)))
            go_ret2
            exact ⟨by first | rfl | (simp [errW_none, errW_some] <;> rfl) | (simp [*, errW_none, errW_some] <;> rfl), by repeat (first | (with_reducible first | exact HB.out | apply below_alloc | apply pw_below_drewN | apply below_drew1 | refine below_set ?_ GE233.out) | exact HB.out)⟩
          · rw [if_neg c14] at H
            have c14b0 : decide (a2 < a1) = false := decide_eq_false c14
            clear c14
            have H' := Aside0.mk H
            clear H
            go_wp2
            go_loopg [12, 13] kj5 (fun kq v12 v13 w' => ∃ (x12_2 : Int) (x13_2 : Int), v12 = .int .i64 x12_2 ∧ v13 = .int .i64 x13_2 ∧ Aside0 (tenorref6_Count.l0 kq a2 x12_2 x13_2 a0_0 l0_1 = some (r1, r2)) ∧ Aside0 (kq ≤ kj5) ∧ Aside0 (w'.heap[gb233]? = some (.cells #[.int .i64 a0_0, (.slice A0_1 l0_1.length c0_1)] 24 (0, 0))) ∧ Aside0 (Below w.heap.size w w'))
            case atStart => exact ⟨(0), (a1), (by first | rfl | (simp; done) | (simp [*]; done)), (by first | rfl | (simp; done) | (simp [*]; done)), H', ⟨Nat.le_refl _⟩, ⟨by (with_reducible repeat (first | refine blk_drewN ?_ _ | refine blk_drew ?_ | refine blk_alloc ?_ _)); exact BK233.out⟩, ⟨by repeat (first | (with_reducible first | exact HB.out | apply below_alloc | apply pw_below_drewN | apply below_drew1 | refine below_set ?_ GE233.out) | exact HB.out)⟩⟩
            case round =>
              clear H'
              try clear c1
              try clear p2
              try clear c4
              try clear c5
              try clear c5b0
              try clear c5b1
              try clear p6
              try clear c8
              try clear c11
              try clear c13
              try clear c14
              try clear c14b0
              try clear hcz16_0
              try clear hcz16_1
              try clear hcz8_0
              try clear hcz8_1
              try clear hfz16_0
              try clear hfz16_1
              try clear hfz8_0
              try clear hfz8_1
              try clear p2
              obtain ⟨x12_2, x13_2, rfl, rfl, HA, HK2, BK233, HB⟩ := hrel
              cases gk with
              | zero => exact absurd HA.out (by simp [tenorref6_Count.l0])
              | succ k2 =>
                have H := HA.out
                clear HA
                simp only [tenorref6_Count.l0] at H
                by_cases c18 : x13_2 < a2
                · rw [if_pos c18] at H
                  have c18b0 : decide (x13_2 < a2) = true := decide_eq_true c18
                  clear c18
                  replace H := Option.bind_eq_some_iff.mp H
                  obtain ⟨t240, A190, H⟩ := H
                  replace H : (if t240 = true then (tenorref6_Count.l0 k2 a2 (wrap64 (x12_2 + 1)) (wrap64 (x13_2 + 1)) a0_0 l0_1) else (tenorref6_Count.l0 k2 a2 x12_2 (wrap64 (x13_2 + 1)) a0_0 l0_1)) = some (r1, r2) := H
                  have A19 := Aside0.mk A190
                  clear A190
                  by_cases c20 : t240 = true
                  · subst c20
                    have H1 : (tenorref6_Count.l0 k2 a2 (wrap64 (x12_2 + 1)) (wrap64 (x13_2 + 1)) a0_0 l0_1) = some (r1, r2) := by rw [if_pos rfl] at H; exact H
                    clear H
                    have H := H1
                    clear H1
                    have H' := Aside0.mk H
                    clear H
                    have hcz21_0 : wr.cell? ⟨gb233, 0, none⟩ = some (.int .i64 a0_0) := (blk_cell BK233.out 0).trans rfl
                    have hcz21_1 : wr.cell? ⟨gb233, 1, none⟩ = some (.slice A0_1 l0_1.length c0_1) := (blk_cell BK233.out 1).trans rfl
                    have hfz21_0 := blk_frozen BK233.out 0
                    have hfz21_1 := blk_frozen BK233.out 1
                    go_wp2_with (first | ((with_reducible refine gate_callee (f := 74) rfl ?_); refine goesL_ (some 51) rfl rfl Try.func74 (by kernel_rfl) rfl #[.agg #[.int .i64 a0_0, .slice A0_1 l0_1.length c0_1], .int .i64 x13_2] rfl (by (try simp only [List.map_toArray, List.map_cons, List.map_nil]); first | done | rfl | (simp only [List.length_drop, List.length_take]; rfl)) ?_; (with_reducible refine (tenorref6_open.calls k2 a0_0 _ _ l0_1 x13_2 true _ ?side1 ?side2 A19.out).mono ?_); (case side1 => repeat (first | exact (Kd.C_below HR0_1.out HB.out) | (with_reducible refine Kd.C_alloc ?_ _) | (with_reducible refine Kd.C_drewN ?_ _) | (with_reducible refine Kd.C_drew ?_))); (case side2 => exact HC0_1.out); rintro e w22 ⟨rfl, hb⟩; refine ⟨_, rfl, ?_⟩; have n0_ := Aside0.mk (blk_below (g := gb233) (o := .cells #[.int .i64 a0_0, .slice A0_1 l0_1.length c0_1] 24 (0, 0)) (by (with_reducible repeat (first | refine blk_drewN ?_ _ | refine blk_drew ?_ | refine blk_alloc ?_ _)); exact BK233.out) hb); have n1_ := Aside0.mk (below_step (by repeat (first | (with_reducible first | exact HB.out | apply below_alloc | apply pw_below_drewN | apply below_drew1 | refine below_set ?_ GE233.out) | exact HB.out)) hb); clear BK233; clear HB; have BK233 := n0_; have HB := n1_; clear n0_ n1_; (try clear hb); (try clear hb2); (try clear hk); (try clear hi)))
                    go_roundg k2
                    case measure => have := HJ5.out; have := HK2.out; omega
                    case rel => exact ⟨(wrap64 (x12_2 + 1)), (wrap64 (x13_2 + 1)), (by first | rfl | (simp; done) | (simp [*]; done)), (by first | rfl | (simp; done) | (simp [*]; done)), H', ⟨by have := HJ5.out; have := HK2.out; omega⟩, ⟨by (with_reducible repeat (first | refine blk_drewN ?_ _ | refine blk_drew ?_ | refine blk_alloc ?_ _)); exact BK233.out⟩, ⟨by repeat (first | (with_reducible first | exact HB.out | apply below_alloc | apply pw_below_drewN | apply below_drew1 | refine below_set ?_ GE233.out) | exact HB.out)⟩⟩
                  · replace c20 := Bool.eq_false_iff.mpr c20
                    subst c20
                    have H1 : (tenorref6_Count.l0 k2 a2 x12_2 (wrap64 (x13_2 + 1)) a0_0 l0_1) = some (r1, r2) := by rw [if_neg (show ¬ (false = true) by decide)] at H; exact H
                    clear H
                    have H := H1
                    clear H1
                    have H' := Aside0.mk H
                    clear H
                    have hcz23_0 : wr.cell? ⟨gb233, 0, none⟩ = some (.int .i64 a0_0) := (blk_cell BK233.out 0).trans rfl
                    have hcz23_1 : wr.cell? ⟨gb233, 1, none⟩ = some (.slice A0_1 l0_1.length c0_1) := (blk_cell BK233.out 1).trans rfl
                    have hfz23_0 := blk_frozen BK233.out 0
                    have hfz23_1 := blk_frozen BK233.out 1
                    go_wp2_with (first | ((with_reducible refine gate_callee (f := 74) rfl ?_); refine goesL_ (some 51) rfl rfl Try.func74 (by kernel_rfl) rfl #[.agg #[.int .i64 a0_0, .slice A0_1 l0_1.length c0_1], .int .i64 x13_2] rfl (by (try simp only [List.map_toArray, List.map_cons, List.map_nil]); first | done | rfl | (simp only [List.length_drop, List.length_take]; rfl)) ?_; (with_reducible refine (tenorref6_open.calls k2 a0_0 _ _ l0_1 x13_2 false _ ?side1 ?side2 A19.out).mono ?_); (case side1 => repeat (first | exact (Kd.C_below HR0_1.out HB.out) | (with_reducible refine Kd.C_alloc ?_ _) | (with_reducible refine Kd.C_drewN ?_ _) | (with_reducible refine Kd.C_drew ?_))); (case side2 => exact HC0_1.out); rintro e w24 ⟨rfl, hb⟩; refine ⟨_, rfl, ?_⟩; have n0_ := Aside0.mk (blk_below (g := gb233) (o := .cells #[.int .i64 a0_0, .slice A0_1 l0_1.length c0_1] 24 (0, 0)) (by (with_reducible repeat (first | refine blk_drewN ?_ _ | refine blk_drew ?_ | refine blk_alloc ?_ _)); exact BK233.out) hb); have n1_ := Aside0.mk (below_step (by repeat (first | (with_reducible first | exact HB.out | apply below_alloc | apply pw_below_drewN | apply below_drew1 | refine below_set ?_ GE233.out) | exact HB.out)) hb); clear BK233; clear HB; have BK233 := n0_; have HB := n1_; clear n0_ n1_; (try clear hb); (try clear hb2); (try clear hk); (try clear hi)))
                    go_roundg k2
                    case measure => have := HJ5.out; have := HK2.out; omega
                    case rel => exact ⟨(x12_2), (wrap64 (x13_2 + 1)), (by first | rfl | (simp; done) | (simp [*]; done)), (by first | rfl | (simp; done) | (simp [*]; done)), H', ⟨by have := HJ5.out; have := HK2.out; omega⟩, ⟨by (with_reducible repeat (first | refine blk_drewN ?_ _ | refine blk_drew ?_ | refine blk_alloc ?_ _)); exact BK233.out⟩, ⟨by repeat (first | (with_reducible first | exact HB.out | apply below_alloc | apply pw_below_drewN | apply below_drew1 | refine below_set ?_ GE233.out) | exact HB.out)⟩⟩
                · rw [if_neg c18] at H
                  have c18b0 : decide (x13_2 < a2) = false := decide_eq_false c18
                  clear c18
                  simp only [Option.some.injEq, Prod.mk.injEq] at H
                  obtain ⟨rfl, rfl⟩ := H
                  go_wp2
                  go_ret2
                  exact ⟨by first | rfl | (simp [errW_none, errW_some] <;> rfl) | (simp [*, errW_none, errW_some] <;> rfl), by repeat (first | (with_reducible first | exact HB.out | apply below_alloc | apply pw_below_drewN | apply below_drew1 | refine below_set ?_ GE233.out) | exact HB.out)⟩
  · rw [if_neg c5] at H
    have c5b0 : (t234 == 0) = false := beq_eq_false_iff_ne.mpr c5
    have c5b1 : (t234 != 0) = true := bne_iff_ne.mpr c5
    simp only [Option.some.injEq, Prod.mk.injEq] at H
    obtain ⟨rfl, rfl⟩ := H
    go_enter Try.func43, Try.ntmps43
    go_wp2_with (first | ((with_reducible refine gate_dst (N := 3) rfl ?_); refine box_event ?hg (N := 3) ?hd (cs := #[.int .i64 a0_0, .slice A0_1 l0_1.length c0_1]) (t := 24) ?hr ?_; (case hd => rfl); (case hg => rfl); (case hr => first | (go_simp; done) | (go_simp; rfl)); intro gb233 hg w25 hbox hb; have n0_ := Aside0.mk (below_step (by repeat (first | (with_reducible first | exact HB.out | apply below_alloc | apply pw_below_drewN | apply below_drew1) | exact HB.out)) hb); have n1_ := Aside0.mk (hbox); have n2_ := Aside0.mk ((by rw [hg]; exact (below_size (by repeat (first | (with_reducible first | exact HB.out | apply below_alloc | apply pw_below_drewN | apply below_drew1) | exact HB.out))) : w.heap.size ≤ gb233)); have n3_ := Aside0.mk ((by rw [hg]; exact (below_size (by repeat (first | (with_reducible first | exact HB.out | apply below_alloc | apply pw_below_drewN | apply below_drew1) | exact HB.out))) : w.heap.size ≤ gb233)); clear HB; have HB := n0_; have BK233 := n1_; have GW233 := n2_; have GE233 := n3_; clear n0_ n1_ n2_ n3_; clear hb hbox hg; have hcz26_0 : w25.cell? ⟨gb233, 0, none⟩ = some (.int .i64 a0_0) := (blk_cell BK233.out 0).trans rfl; have hcz26_1 : w25.cell? ⟨gb233, 1, none⟩ = some (.slice A0_1 l0_1.length c0_1) := (blk_cell BK233.out 1).trans rfl; have hfz26_0 := blk_frozen BK233.out 0; have hfz26_1 := blk_frozen BK233.out 1) | ((with_reducible refine gate_callee (f := 45) rfl ?_); refine goesL_ (some 16) rfl rfl Try.func45 (by kernel_rfl) rfl #[.agg #[.int .i64 a0_0, .slice A0_1 l0_1.length c0_1]] rfl (by (try simp only [List.map_toArray, List.map_cons, List.map_nil]); first | done | rfl | (simp only [List.length_drop, List.length_take]; rfl)) ?_; (with_reducible refine (tenorref6_Check.calls k a0_0 _ _ l0_1 t234 t235 _ ?side1 ?side2 A4.out).mono ?_); (case side1 => repeat (first | exact (Kd.C_below HR0_1.out HB.out) | (with_reducible refine Kd.C_alloc ?_ _) | (with_reducible refine Kd.C_drewN ?_ _) | (with_reducible refine Kd.C_drew ?_))); (case side2 => exact HC0_1.out); rintro e w27 ⟨rfl, hb⟩; refine ⟨_, rfl, ?_⟩; have n0_ := Aside0.mk (blk_below (g := gb233) (o := .cells #[.int .i64 a0_0, .slice A0_1 l0_1.length c0_1] 24 (0, 0)) (by (with_reducible repeat (first | refine blk_drewN ?_ _ | refine blk_drew ?_ | refine blk_alloc ?_ _)); exact BK233.out) hb); have n1_ := Aside0.mk (below_step (by repeat (first | (with_reducible first | exact HB.out | apply below_alloc | apply pw_below_drewN | apply below_drew1 | refine below_set ?_ GE233.out) | exact HB.out)) hb); clear BK233; clear HB; have BK233 := n0_; have HB := n1_; clear n0_ n1_; (try clear hb); (try clear hb2); (try clear hk); (try clear hi)))
    go_ret2
    exact ⟨by first | rfl | (simp [errW_none, errW_some] <;> rfl) | (simp [*, errW_none, errW_some] <;> rfl), by repeat (first | (with_reducible first | exact HB.out | apply below_alloc | apply pw_below_drewN | apply below_drew1 | refine below_set ?_ GE233.out) | exact HB.out)⟩

end Go.Proofs.Ytoncignjcgjhhaa.Q

namespace Go.Proofs.Ytoncignjcgjhhaa.Q
open Go.RowKit Go.Proofs.YtoncignjcgjhhaaW.PrintWords Go.Proofs.YtoncignjcgjhhaaW.PrintLast Go.Proofs.YtoncignjcgjhhaaW.PrintMore
attribute [local go_sem] max2_int min2_int max_two min_two max_three min_three max_four min_four   -- for this text's walks alone
set_option linter.unusedVariables false
set_option linter.unusedSimpArgs false

def cal_Open.f (a0_0 : Int) (l0_1 : List S63) (a1 : Int) : Option (Bool × Int) := if wfL l0_1 then some (Go.Proofs.Ytoncignjcgjhhaa.M.Open a0_0 (l0_1.map Go.Proofs.Ytoncignjcgjhhaa.H.ru) a1) else none
theorem cal_Open.calls (a0_0 : Int) (A0_1 : Option Addr) (c0_1 : Nat) (l0_1 : List (S63)) (a1 : Int) (r1 : Bool) (r2 : Int) (w : World) (hr0_1 : Kd.C k63 w A0_1 l0_1.length l0_1) (hc0_1 : l0_1.length ≤ c0_1) (h : cal_Open.f a0_0 l0_1 a1 = some (r1, r2)) :
    Calls Try.prog 33 #[.agg #[.int .i64 a0_0, .slice A0_1 l0_1.length c0_1], .int .i64 a1] w fun e w' => e = .returned (.tuple #[.bool r1, .int .i64 r2]) ∧ Below w.heap.size w w' := by
  unfold cal_Open.f at h
  split at h
  · rename_i hc
    have e := Option.some.inj h
    have c := Go.Proofs.Ytoncignjcgjhhaa.H.Open_calls a0_0 A0_1 c0_1 l0_1 a1 w hr0_1 (wfL_mem hc)
    rw [e] at c
    exact c
  · cases h

end Go.Proofs.Ytoncignjcgjhhaa.Q

namespace Go.Proofs.Ytoncignjcgjhhaa.Q
open Go.RowKit Go.Proofs.YtoncignjcgjhhaaW.PrintWords Go.Proofs.YtoncignjcgjhhaaW.PrintLast Go.Proofs.YtoncignjcgjhhaaW.PrintMore
attribute [local go_sem] max2_int min2_int max_two min_two max_three min_three max_four min_four   -- for this text's walks alone
set_option linter.unusedVariables false
set_option linter.unusedSimpArgs false

def cal_Holiday.f (a0_0 : Int) (l0_1 : List S63) (a1 : Int) : Option (Bool × Int) := if wfL l0_1 then some (Go.Proofs.Ytoncignjcgjhhaa.M.Holiday a0_0 (l0_1.map Go.Proofs.Ytoncignjcgjhhaa.H.ru) a1) else none
theorem cal_Holiday.calls (a0_0 : Int) (A0_1 : Option Addr) (c0_1 : Nat) (l0_1 : List (S63)) (a1 : Int) (r1 : Bool) (r2 : Int) (w : World) (hr0_1 : Kd.C k63 w A0_1 l0_1.length l0_1) (hc0_1 : l0_1.length ≤ c0_1) (h : cal_Holiday.f a0_0 l0_1 a1 = some (r1, r2)) :
    Calls Try.prog 35 #[.agg #[.int .i64 a0_0, .slice A0_1 l0_1.length c0_1], .int .i64 a1] w fun e w' => e = .returned (.tuple #[.bool r1, .int .i64 r2]) ∧ Below w.heap.size w w' := by
  unfold cal_Holiday.f at h
  split at h
  · rename_i hc
    have e := Option.some.inj h
    have c := Go.Proofs.Ytoncignjcgjhhaa.H.Holiday_calls a0_0 A0_1 c0_1 l0_1 a1 w hr0_1 (wfL_mem hc)
    rw [e] at c
    exact c
  · cases h

end Go.Proofs.Ytoncignjcgjhhaa.Q

namespace Go.Proofs.Ytoncignjcgjhhaa.Q
open Go.RowKit Go.Proofs.YtoncignjcgjhhaaW.PrintWords Go.Proofs.YtoncignjcgjhhaaW.PrintLast Go.Proofs.YtoncignjcgjhhaaW.PrintMore
attribute [local go_sem] max2_int min2_int max_two min_two max_three min_three max_four min_four   -- for this text's walks alone
set_option linter.unusedVariables false
set_option linter.unusedSimpArgs false

def cal_Adjust.f (a0_0 : Int) (l0_1 : List S63) (a1 : Int) (a2 : Int) : Option (Int × Int) := if wfL l0_1 then some (Go.Proofs.Ytoncignjcgjhhaa.M.Adjust a0_0 (l0_1.map Go.Proofs.Ytoncignjcgjhhaa.H.ru) a1 a2) else none
theorem cal_Adjust.calls (a0_0 : Int) (A0_1 : Option Addr) (c0_1 : Nat) (l0_1 : List (S63)) (a1 : Int) (a2 : Int) (r1 : Int) (r2 : Int) (w : World) (hr0_1 : Kd.C k63 w A0_1 l0_1.length l0_1) (hc0_1 : l0_1.length ≤ c0_1) (h : cal_Adjust.f a0_0 l0_1 a1 a2 = some (r1, r2)) :
    Calls Try.prog 38 #[.agg #[.int .i64 a0_0, .slice A0_1 l0_1.length c0_1], .int .i64 a1, .int .i64 a2] w fun e w' => e = .returned (.tuple #[.int .i64 r1, .int .i64 r2]) ∧ Below w.heap.size w w' := by
  unfold cal_Adjust.f at h
  split at h
  · rename_i hc
    have e := Option.some.inj h
    have c := Go.Proofs.Ytoncignjcgjhhaa.H.Adjust_calls a0_0 A0_1 c0_1 l0_1 a1 a2 w hr0_1 (wfL_mem hc)
    rw [e] at c
    exact c
  · cases h

end Go.Proofs.Ytoncignjcgjhhaa.Q

namespace Go.Proofs.Ytoncignjcgjhhaa.H
open Go.RowKit Go.Maps Go.Proofs.YtoncignjcgjhhaaW.PrintWords Go.Proofs.YtoncignjcgjhhaaW.PrintLast Go.Proofs.YtoncignjcgjhhaaW.PrintMore
open Go.Proofs.Ytoncignjcgjhhaa.Q (S63 k63 z63)

theorem nextF_up (we : Int) (l : List M.Rul) : ∀ (f : Nat) (n : Int), (M.nextF we l 1 f n).2 = 0 → n ≤ (M.nextF we l 1 f n).1
  | 0, n, h => by simp [M.nextF] at h
  | f + 1, n, h => by
    unfold M.nextF at h ⊢
    split at h
    · split at h
      · rename_i a b; rw [if_pos a, if_pos b]; exact Int.le_refl _
      · rename_i a b; rw [if_pos a, if_neg b]; have := nextF_up we l f (n + 1) h; omega
    · simp at h
theorem nextF_down (we : Int) (l : List M.Rul) : ∀ (f : Nat) (n : Int), (M.nextF we l (-1) f n).2 = 0 → (M.nextF we l (-1) f n).1 ≤ n
  | 0, n, h => by simp [M.nextF] at h
  | f + 1, n, h => by
    unfold M.nextF at h ⊢
    split at h
    · split at h
      · rename_i a b; rw [if_pos a, if_pos b]; exact Int.le_refl _
      · rename_i a b; rw [if_pos a, if_neg b]; have := nextF_down we l f (n + -1) h; omega
    · simp at h

theorem addF_zero {we : Int} {l : List M.Rul} {d : Int} {f : Nat} {n : Int} {ans : Int × Int} (h : M.addF we l d f n 0 = ans) (hf : f ≠ 0) : (n, 0) = ans := by
  obtain ⟨k, rfl⟩ : ∃ k, f = k + 1 := ⟨f - 1, by omega⟩
  unfold M.addF at h; rw [if_pos rfl] at h; exact h
theorem addF_on {we : Int} {l : List M.Rul} {d : Int} {f : Nat} {n j : Int} {ans p : Int × Int} (h : M.addF we l d f n j = ans) (hf : f ≠ 0) (hj : ¬ j = 0) (hp : M.next we l (n + d) d = p) (h2 : p.2 = 0) : M.addF we l d (f - 1) p.1 (j - d) = ans := by
  subst hp
  obtain ⟨k, rfl⟩ : ∃ k, f = k + 1 := ⟨f - 1, by omega⟩
  unfold M.addF at h; rw [if_neg hj, if_pos h2] at h; exact h
theorem addF_out {we : Int} {l : List M.Rul} {d : Int} {f : Nat} {n j : Int} {ans p : Int × Int} (h : M.addF we l d f n j = ans) (hf : f ≠ 0) (hj : ¬ j = 0) (hp : M.next we l (n + d) d = p) (h2 : ¬ p.2 = 0) : (0, 51) = ans := by
  subst hp
  obtain ⟨k, rfl⟩ : ∃ k, f = k + 1 := ⟨f - 1, by omega⟩
  unfold M.addF at h; rw [if_neg hj, if_neg h2] at h; exact h

set_option maxHeartbeats 2000000 in
set_option maxRecDepth 100000 in
/-- 'cal.Add'. -/
theorem Add_calls (we : Int) (A : Option Addr) (c : Nat) (l : List S63) (n k : Int) (w : World) (hr : Kd.C k63 w A l.length l) (hw : ∀ x ∈ l, wfS x) (hk64 : L.i64 k) :
    Calls Try.prog 40 #[.agg #[.int .i64 we, .slice A l.length c], .int .i64 n, .int .i64 k] w fun e w' => e = .returned (.tuple #[.int .i64 (M.Add we (l.map ru) n k).1, .int .i64 (M.Add we (l.map ru) n k).2]) ∧ Below w.heap.size w w' := by
  have HR := Aside0.mk hr
  have HW := Aside0.mk hw
  clear hr hw
  by_cases hne : (M.chk we (l.map ru)).1 = 0
  rotate_left
  · have HT := Aside0.mk (show (0, (M.chk we (l.map ru)).1) = M.Add we (l.map ru) n k by unfold M.Add; rw [if_neg hne])
    have hb : ((M.chk we (l.map ru)).1 != 0) = true := by simpa using hne
    have HN := Aside0.mk hne; clear hne
    go_enter Try.func40, Try.ntmps40
    go_wp2_with fail
    refine (begin_err we A c l _ (Kd.C_below HR.out (below_alloc (Below.refl _ _) _)) HW.out HN.out).mono ?_; rintro e w2 ⟨rfl, hb2⟩
    have HB2 := Aside0.mk (below_step (below_alloc (Below.refl _ _) _) hb2); clear hb2
    go_wp2_with fail
    go_ret2
    exact ⟨ret_pair HT.out, HB2.out⟩
  have HN := Aside0.mk hne
  have HU := Aside0.mk (show M.Add we (l.map ru) n k = _ by unfold M.Add; rw [if_pos hne])
  clear hne
  have hk64a := hk64.1
  have hk64b := hk64.2
  clear hk64
  by_cases hx : M.isDay n
  rotate_left
  · have HT := Aside0.mk (show (0, 51) = M.Add we (l.map ru) n k by rw [HU.out, if_neg hx])
    have HDB := Aside0.mk (decide_eq_false (show ¬ (0 ≤ n ∧ n ≤ 109572) from hx)); clear hx
    go_enter Try.func40, Try.ntmps40
    go_wp2_with fail
    refine (begin_ok we A c l _ (Kd.C_below HR.out (below_alloc (Below.refl _ _) _)) HW.out HN.out).mono ?_; rintro e w2 ⟨bb, rfl, hb2⟩
    have HO := Aside0.mk (ok_of we A l _ (Kd.C_below HR.out (below_alloc (Below.refl w.heap.size w) (.cells #[.int .i64 we, .slice A l.length c] 24))) HW.out HN.out)
    have HB := Aside0.mk hb2; clear hb2
    go_wp2_with fail
    refine (is_calls _ _ HDB.out _).mono ?_; rintro e w3 ⟨rfl, ⟨q3, rfl⟩⟩
    go_wp2_with fail
    go_ret2
    exact ⟨ret_pair HT.out, fin (HB.out.drewN _)⟩
  have HX := Aside0.mk hx
  have hx0 : -1 ≤ n := by have := hx.1; omega
  have hx1 : n ≤ 109573 := by have := hx.2; omega
  have HDB := Aside0.mk (decide_eq_true (show 0 ≤ n ∧ n ≤ 109572 from hx))
  have HV := Aside0.mk (show M.Add we (l.map ru) n k = _ by rw [HU.out, if_pos hx])
  clear hx HU
  by_cases hk : k = 0
  · subst hk
    have HT := Aside0.mk (show M.next we (l.map ru) n 1 = M.Add we (l.map ru) n 0 by rw [HV.out, if_pos rfl])
    clear HV
    go_enter Try.func40, Try.ntmps40
    go_wp2_with fail
    refine (begin_ok we A c l _ (Kd.C_below HR.out (below_alloc (Below.refl _ _) _)) HW.out HN.out).mono ?_; rintro e w2 ⟨bb, rfl, hb2⟩
    have HO := Aside0.mk (ok_of we A l _ (Kd.C_below HR.out (below_alloc (Below.refl w.heap.size w) (.cells #[.int .i64 we, .slice A l.length c] 24))) HW.out HN.out)
    have HB := Aside0.mk hb2; clear hb2
    go_wp2_with fail
    refine (is_calls _ _ HDB.out _).mono ?_; rintro e w3 ⟨rfl, ⟨q3, rfl⟩⟩
    go_wp2_with fail
    refine (next_calls _ _ bb we A c l 0 _ _ (by repeat (with_reducible first | exact HB.out | refine Book.drewN ?_ _ | refine Book.drew ?_)) HO.out (.inl rfl) hx0 hx1 (by unfold maxLen; omega)).mono ?_; rw [HT.out]; rintro e w4 ⟨rfl, hb4⟩
    have HB4 := Aside0.mk hb4; clear hb4
    go_wp2_with fail
    go_ret2
    exact ⟨rfl, fin HB4.out⟩
  have hkb : (k == 0) = false := by simpa using hk
  by_cases hneg : k < 0
  · have HT := Aside0.mk (show M.addF we (l.map ru) (-1) 109580 n k = M.Add we (l.map ru) n k by rw [HV.out, if_neg hk, if_pos hneg])
    have hx0b : 0 ≤ n := HX.out.1
    have hx1b : n ≤ 109572 := HX.out.2
    clear HV
    go_enter Try.func40, Try.ntmps40
    go_wp2_with fail
    refine (begin_ok we A c l _ (Kd.C_below HR.out (below_alloc (Below.refl _ _) _)) HW.out HN.out).mono ?_; rintro e w2 ⟨bb, rfl, hb2⟩
    have HO := Aside0.mk (ok_of we A l _ (Kd.C_below HR.out (below_alloc (Below.refl w.heap.size w) (.cells #[.int .i64 we, .slice A l.length c] 24))) HW.out HN.out)
    have HB := Aside0.mk hb2; clear hb2
    go_wp2_with fail
    refine (is_calls _ _ HDB.out _).mono ?_; rintro e w3 ⟨rfl, ⟨q3, rfl⟩⟩
    go_wp2_with fail
    go_loopg [1, 2] 109580 (fun kq v1 v2 w' => ∃ y j : Int, 0 ≤ y ∧ y ≤ 109572 ∧ -9223372036854775808 ≤ j ∧ j ≤ 0 ∧ kq ≤ 109580 ∧ y < kq ∧ v1 = .int .i64 y ∧ v2 = .int .i64 j ∧ Aside0 (M.addF we (l.map ru) (-1) kq y j = M.Add we (l.map ru) n k) ∧ Aside0 (Book (w.alloc (.cells #[.int .i64 we, .slice A l.length c] 24)) w' bb we A c l (22000000 * (109580 - kq))))
    case atStart => exact ⟨n, k, by omega, by omega, by omega, by omega, by omega, by omega, rfl, rfl, HT, ⟨Book.mono (n := 0) (by repeat (with_reducible first | exact HB.out | refine Book.drewN ?_ _ | refine Book.drew ?_)) (by omega)⟩⟩
    case round =>
      obtain ⟨y, j, hy0, hy1, hj0, hj1, hkq, hfu, rfl, rfl, HF, HB2⟩ := hrel
      clear HB
      have hgk : gk ≠ 0 := by omega
      by_cases hj : j = 0
      · subst hj
        have HE := Aside0.mk (addF_zero HF.out hgk)
        go_wp2_with fail
        go_ret2
        exact ⟨ret_pair HE.out, fin HB2.out⟩
      · have hjb : (j != 0) = true := by simpa using hj
        have hjs : j ≤ -1 := by omega
        obtain ⟨p, hp⟩ : ∃ p, M.next we (l.map ru) (y + (-1)) (-1) = p := ⟨_, rfl⟩
        have hres := M.next_res we (l.map ru) (y + (-1)) (-1)
        have hmv := nextF_down we (l.map ru) 109580 (y + (-1))
        have e : M.nextF we (l.map ru) (-1) 109580 (y + (-1)) = p := hp
        rw [e] at hmv
        rw [hp] at hres
        by_cases h2 : p.2 = 0
        · have HE := Aside0.mk (addF_on HF.out hgk hj hp h2)
          have hmv2 := hmv h2
          have HP := Aside0.mk hp
          obtain ⟨p1, p2⟩ := p
          simp only at h2 hres hmv2 HE
          subst h2
          have hday : M.isDay p1 := by rcases hres with h | h; (injection h with h1 h2; cases h2); exact h.2.1
          have hday0 := hday.1
          have hday1 := hday.2
          clear hres hmv e hp hday hj
          go_wp2_with fail
          refine (next_calls _ _ bb we A c l (22000000 * (109580 - gk)) _ _ HB2.out HO.out (.inr rfl) (by omega) (by omega) (by unfold maxLen; omega)).mono ?_; rw [HP.out]; rintro e w4 ⟨rfl, hb4⟩
          have HB4 := Aside0.mk hb4; clear hb4
          go_wp2_with fail
          go_roundg (gk - 1)
          case measure => omega
          case rel => exact ⟨p1, j - (-1), by omega, by omega, by omega, by omega, by omega, by omega, rfl, by go_num, HE, ⟨HB4.out.mono (by omega)⟩⟩
        · have HE := Aside0.mk (addF_out HF.out hgk hj hp h2)
          have HP := Aside0.mk hp
          have hp51 : p = (0, 51) := by rcases hres with h | h; exact h; exact absurd h.1 h2
          subst hp51
          clear hres hmv e hp h2 hj
          go_wp2_with fail
          refine (next_calls _ _ bb we A c l (22000000 * (109580 - gk)) _ _ HB2.out HO.out (.inr rfl) (by omega) (by omega) (by unfold maxLen; omega)).mono ?_; rw [HP.out]; rintro e w4 ⟨rfl, hb4⟩
          have HB4 := Aside0.mk hb4; clear hb4
          go_wp2_with fail
          go_ret2
          exact ⟨ret_pair HE.out, fin HB4.out⟩
  · have HT := Aside0.mk (show M.addF we (l.map ru) 1 109580 n k = M.Add we (l.map ru) n k by rw [HV.out, if_neg hk, if_neg hneg])
    have hx0b : 0 ≤ n := HX.out.1
    have hx1b : n ≤ 109572 := HX.out.2
    clear HV
    go_enter Try.func40, Try.ntmps40
    go_wp2_with fail
    refine (begin_ok we A c l _ (Kd.C_below HR.out (below_alloc (Below.refl _ _) _)) HW.out HN.out).mono ?_; rintro e w2 ⟨bb, rfl, hb2⟩
    have HO := Aside0.mk (ok_of we A l _ (Kd.C_below HR.out (below_alloc (Below.refl w.heap.size w) (.cells #[.int .i64 we, .slice A l.length c] 24))) HW.out HN.out)
    have HB := Aside0.mk hb2; clear hb2
    go_wp2_with fail
    refine (is_calls _ _ HDB.out _).mono ?_; rintro e w3 ⟨rfl, ⟨q3, rfl⟩⟩
    go_wp2_with fail
    go_loopg [1, 2] 109580 (fun kq v1 v2 w' => ∃ y j : Int, 0 ≤ y ∧ y ≤ 109572 ∧ 0 ≤ j ∧ j ≤ 9223372036854775807 ∧ kq ≤ 109580 ∧ 109572 - y < kq ∧ v1 = .int .i64 y ∧ v2 = .int .i64 j ∧ Aside0 (M.addF we (l.map ru) 1 kq y j = M.Add we (l.map ru) n k) ∧ Aside0 (Book (w.alloc (.cells #[.int .i64 we, .slice A l.length c] 24)) w' bb we A c l (22000000 * (109580 - kq))))
    case atStart => exact ⟨n, k, by omega, by omega, by omega, by omega, by omega, by omega, rfl, rfl, HT, ⟨Book.mono (n := 0) (by repeat (with_reducible first | exact HB.out | refine Book.drewN ?_ _ | refine Book.drew ?_)) (by omega)⟩⟩
    case round =>
      obtain ⟨y, j, hy0, hy1, hj0, hj1, hkq, hfu, rfl, rfl, HF, HB2⟩ := hrel
      clear HB
      have hgk : gk ≠ 0 := by omega
      by_cases hj : j = 0
      · subst hj
        have HE := Aside0.mk (addF_zero HF.out hgk)
        go_wp2_with fail
        go_ret2
        exact ⟨ret_pair HE.out, fin HB2.out⟩
      · have hjb : (j != 0) = true := by simpa using hj
        have hjs : 1 ≤ j := by omega
        obtain ⟨p, hp⟩ : ∃ p, M.next we (l.map ru) (y + 1) 1 = p := ⟨_, rfl⟩
        have hres := M.next_res we (l.map ru) (y + 1) 1
        have hmv := nextF_up we (l.map ru) 109580 (y + 1)
        have e : M.nextF we (l.map ru) 1 109580 (y + 1) = p := hp
        rw [e] at hmv
        rw [hp] at hres
        by_cases h2 : p.2 = 0
        · have HE := Aside0.mk (addF_on HF.out hgk hj hp h2)
          have hmv2 := hmv h2
          have HP := Aside0.mk hp
          obtain ⟨p1, p2⟩ := p
          simp only at h2 hres hmv2 HE
          subst h2
          have hday : M.isDay p1 := by rcases hres with h | h; (injection h with h1 h2; cases h2); exact h.2.1
          have hday0 := hday.1
          have hday1 := hday.2
          clear hres hmv e hp hday hj
          go_wp2_with fail
          refine (next_calls _ _ bb we A c l (22000000 * (109580 - gk)) _ _ HB2.out HO.out (.inl rfl) (by omega) (by omega) (by unfold maxLen; omega)).mono ?_; rw [HP.out]; rintro e w4 ⟨rfl, hb4⟩
          have HB4 := Aside0.mk hb4; clear hb4
          go_wp2_with fail
          go_roundg (gk - 1)
          case measure => omega
          case rel => exact ⟨p1, j - 1, by omega, by omega, by omega, by omega, by omega, by omega, rfl, by go_num, HE, ⟨HB4.out.mono (by omega)⟩⟩
        · have HE := Aside0.mk (addF_out HF.out hgk hj hp h2)
          have HP := Aside0.mk hp
          have hp51 : p = (0, 51) := by rcases hres with h | h; exact h; exact absurd h.1 h2
          subst hp51
          clear hres hmv e hp h2 hj
          go_wp2_with fail
          refine (next_calls _ _ bb we A c l (22000000 * (109580 - gk)) _ _ HB2.out HO.out (.inl rfl) (by omega) (by omega) (by unfold maxLen; omega)).mono ?_; rw [HP.out]; rintro e w4 ⟨rfl, hb4⟩
          have HB4 := Aside0.mk hb4; clear hb4
          go_wp2_with fail
          go_ret2
          exact ⟨ret_pair HE.out, fin HB4.out⟩

end Go.Proofs.Ytoncignjcgjhhaa.H

namespace Go.Proofs.Ytoncignjcgjhhaa.Q
open Go.RowKit Go.Proofs.YtoncignjcgjhhaaW.PrintWords Go.Proofs.YtoncignjcgjhhaaW.PrintLast Go.Proofs.YtoncignjcgjhhaaW.PrintMore
attribute [local go_sem] max2_int min2_int max_two min_two max_three min_three max_four min_four   -- for this text's walks alone
set_option linter.unusedVariables false
set_option linter.unusedSimpArgs false

def cal_Add.f (a0_0 : Int) (l0_1 : List S63) (a1 : Int) (a2 : Int) : Option (Int × Int) := if wfL l0_1 ∧ Go.Proofs.Ytoncignjcgjhhaa.L.i64 a2 then some (Go.Proofs.Ytoncignjcgjhhaa.M.Add a0_0 (l0_1.map Go.Proofs.Ytoncignjcgjhhaa.H.ru) a1 a2) else none
theorem cal_Add.calls (a0_0 : Int) (A0_1 : Option Addr) (c0_1 : Nat) (l0_1 : List (S63)) (a1 : Int) (a2 : Int) (r1 : Int) (r2 : Int) (w : World) (hr0_1 : Kd.C k63 w A0_1 l0_1.length l0_1) (hc0_1 : l0_1.length ≤ c0_1) (h : cal_Add.f a0_0 l0_1 a1 a2 = some (r1, r2)) :
    Calls Try.prog 40 #[.agg #[.int .i64 a0_0, .slice A0_1 l0_1.length c0_1], .int .i64 a1, .int .i64 a2] w fun e w' => e = .returned (.tuple #[.int .i64 r1, .int .i64 r2]) ∧ Below w.heap.size w w' := by
  unfold cal_Add.f at h
  split at h
  · rename_i hc
    have e := Option.some.inj h
    have c := Go.Proofs.Ytoncignjcgjhhaa.H.Add_calls a0_0 A0_1 c0_1 l0_1 a1 a2 w hr0_1 (wfL_mem hc.1) hc.2
    rw [e] at c
    exact c
  · cases h

end Go.Proofs.Ytoncignjcgjhhaa.Q
