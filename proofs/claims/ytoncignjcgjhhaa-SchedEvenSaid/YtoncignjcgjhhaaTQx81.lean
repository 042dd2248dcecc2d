/- Contracts of functions of the seat's program: each Go function's Lean function and its walk, written by a program of this session over the kit's print. Not trusted: Lean checks it. -/
import Derived.Test.YtoncignjcgjhhaaTGA
import Derived.Test.YtoncignjcgjhhaaTGH
import Derived.Test.YtoncignjcgjhhaaTGI
import Derived.Test.YtoncignjcgjhhaaTGK
set_option linter.unusedVariables false
set_option linter.unusedSimpArgs false
namespace Go.Proofs.Ytoncignjcgjhhaa.Q
open Go.RowKit Go.Proofs.YtoncignjcgjhhaaW.PrintWords Go.Proofs.YtoncignjcgjhhaaW.PrintLast Go.Proofs.YtoncignjcgjhhaaW.PrintMore
attribute [local go_sem] max2_int min2_int max_two min_two max_three min_three max_four min_four   -- for this text's walks alone
mutual
def tenorlaw8_SchedEven.j0 : Nat → Int → Int → Int → Bool → Bool → Option (Bool)
  | 0, _, _, _, _, _ => none
  | k + 1, x0, x1, x2, x3, x37 => if x37 = true then ((tenorlaw8_awake.f k).bind fun t941 => (some t941)) else (if x3 = true then (tenorlaw8_SchedEven.j1 k x0 x2 (wrap64 (7 * x1)) x0 0 x1 2 1 0 0 0 0) else (tenorlaw8_SchedEven.j1 k x0 x2 x1 x0 0 x1 1 1 0 0 0 0))
def tenorlaw8_SchedEven.j1 : Nat → Int → Int → Int → Int → Int → Int → Int → Int → Int → Int → Int → Int → Option (Bool)
  | 0, _, _, _, _, _, _, _, _, _, _, _, _ => none
  | k + 1, x0, x2, x10, x943000, x943001, x943002, x943003, x943004, x943005, x943006, x943007, x943008 => if (wrap64 (x0 + (wrap64 (x2 * x10)))) > 109572 then ((tenorlaw8_awake.f k).bind fun t943 => (some t943)) else (tenorlaw8_SchedEven.l0 k x0 x2 x10 ([] : List Int) 0 x943000 (wrap64 (x0 + (wrap64 (x2 * x10)))) x943002 x943003 x943004 x943005 x943006 x943007 x943008)
def tenorlaw8_SchedEven.l0 : Nat → Int → Int → Int → List Int → Int → Int → Int → Int → Int → Int → Int → Int → Int → Int → Option (Bool)
  | 0, _, _, _, _, _, _, _, _, _, _, _, _, _, _ => none
  | k + 1, x0, x2, x10, x11, x12, x943000, x943001, x943002, x943003, x943004, x943005, x943006, x943007, x943008 => if x12 ≤ x2 then (if x11.length < 17592186044416 then (tenorlaw8_SchedEven.l0 k x0 x2 x10 (x11 ++ [wrap64 (x0 + (wrap64 (x12 * x10)))]) (wrap64 (x12 + 1)) x943000 x943001 x943002 x943003 x943004 x943005 x943006 x943007 x943008) else (none)) else (tenorlaw8_SchedEven.l1 k x11 1 x943000 x943001 x943002 x943003 x943004 x943005 x943006 x943007 x943008)
def tenorlaw8_SchedEven.l1 : Nat → List Int → Int → Int → Int → Int → Int → Int → Int → Int → Int → Int → Option (Bool)
  | 0, _, _, _, _, _, _, _, _, _, _, _ => none
  | k + 1, x11, x13, x943000, x943001, x943002, x943003, x943004, x943005, x943006, x943007, x943008 => if x13 ≤ 4 then ((sched_Dates.f k x943000 x943001 x943002 x943003 x13 x943005 x943006 x943007 x943008 ([] : List (S63))).bind fun bt948 => (if bt948.2 = 0 then ((tenorref8_SameInts.f k bt948.1 x11).bind fun t952 => (if t952 = true then (tenorlaw8_SchedEven.l1 k x11 (wrap64 (x13 + 1)) x943000 x943001 x943002 x943003 x13 x943005 x943006 x943007 x943008) else (some false))) else (some false))) else ((tenorlaw8_awake.f k).bind fun t947 => (some t947))
end
def tenorlaw8_SchedEven.f (k : Nat) (a0 : Int) (a1 : Int) (a2 : Int) (a3 : Bool) : Option (Bool) := if a0 < 0 then (tenorlaw8_SchedEven.j0 k a0 a1 a2 a3 true) else (if a0 > 109572 then (tenorlaw8_SchedEven.j0 k a0 a1 a2 a3 true) else (if a1 < 1 then (tenorlaw8_SchedEven.j0 k a0 a1 a2 a3 true) else (if a1 > 1200 then (tenorlaw8_SchedEven.j0 k a0 a1 a2 a3 true) else (if a2 < 1 then (tenorlaw8_SchedEven.j0 k a0 a1 a2 a3 true) else (tenorlaw8_SchedEven.j0 k a0 a1 a2 a3 (decide (a2 > 1200)))))))
theorem tenorlaw8_SchedEven.mono_l : ∀ k, (∀ y0 y1 y2 y3 y4, LeO (tenorlaw8_SchedEven.j0 k y0 y1 y2 y3 y4) (tenorlaw8_SchedEven.j0 (k + 1) y0 y1 y2 y3 y4)) ∧ (∀ y0 y1 y2 y3 y4 y5 y6 y7 y8 y9 y10 y11, LeO (tenorlaw8_SchedEven.j1 k y0 y1 y2 y3 y4 y5 y6 y7 y8 y9 y10 y11) (tenorlaw8_SchedEven.j1 (k + 1) y0 y1 y2 y3 y4 y5 y6 y7 y8 y9 y10 y11)) ∧ (∀ y0 y1 y2 y3 y4 y5 y6 y7 y8 y9 y10 y11 y12 y13, LeO (tenorlaw8_SchedEven.l0 k y0 y1 y2 y3 y4 y5 y6 y7 y8 y9 y10 y11 y12 y13) (tenorlaw8_SchedEven.l0 (k + 1) y0 y1 y2 y3 y4 y5 y6 y7 y8 y9 y10 y11 y12 y13)) ∧ (∀ y0 y1 y2 y3 y4 y5 y6 y7 y8 y9 y10, LeO (tenorlaw8_SchedEven.l1 k y0 y1 y2 y3 y4 y5 y6 y7 y8 y9 y10) (tenorlaw8_SchedEven.l1 (k + 1) y0 y1 y2 y3 y4 y5 y6 y7 y8 y9 y10))
 | 0 => ⟨fun _ _ _ _ _ r h => by simp [tenorlaw8_SchedEven.j0] at h, fun _ _ _ _ _ _ _ _ _ _ _ _ r h => by simp [tenorlaw8_SchedEven.j1] at h, fun _ _ _ _ _ _ _ _ _ _ _ _ _ _ r h => by simp [tenorlaw8_SchedEven.l0] at h, fun _ _ _ _ _ _ _ _ _ _ _ r h => by simp [tenorlaw8_SchedEven.l1] at h⟩
 | k + 1 => by
  obtain ⟨ih0, ih1, ih2, ih3⟩ := tenorlaw8_SchedEven.mono_l k
  refine ⟨?_, ?_, ?_, ?_⟩
  ·
   intro y0 y1 y2 y3 y4
   unfold tenorlaw8_SchedEven.j0
   repeat' first
   | (with_reducible exact ih0 _ _ _ _ _)
   | (with_reducible exact ih1 _ _ _ _ _ _ _ _ _ _ _ _)
   | (with_reducible exact ih2 _ _ _ _ _ _ _ _ _ _ _ _ _ _)
   | (with_reducible exact ih3 _ _ _ _ _ _ _ _ _ _ _)
   | (with_reducible exact sched_Dates.mono _ _ _ _ _ _ _ _ _ _ _)
   | (with_reducible exact tenorlaw8_awake.mono _)
   | (with_reducible exact tenorref8_SameInts.mono _ _ _)
   | (with_reducible exact LeO.refl _)
   | (with_reducible exact LeO.none _)
   | (with_reducible refine LeO.ite ?_ ?_)
   | (with_reducible refine LeO.bind ?_ (fun _ => ?_))
   | exact ih0 _ _ _ _ _
   | exact ih1 _ _ _ _ _ _ _ _ _ _ _ _
   | exact ih2 _ _ _ _ _ _ _ _ _ _ _ _ _ _
   | exact ih3 _ _ _ _ _ _ _ _ _ _ _
   | exact sched_Dates.mono _ _ _ _ _ _ _ _ _ _ _
   | exact tenorlaw8_awake.mono _
   | exact tenorref8_SameInts.mono _ _ _
   | exact LeO.none _
   | refine LeO.ite ?_ ?_
   | refine LeO.bind ?_ (fun _ => ?_)
  ·
   intro y0 y1 y2 y3 y4 y5 y6 y7 y8 y9 y10 y11
   unfold tenorlaw8_SchedEven.j1
   repeat' first
   | (with_reducible exact ih0 _ _ _ _ _)
   | (with_reducible exact ih1 _ _ _ _ _ _ _ _ _ _ _ _)
   | (with_reducible exact ih2 _ _ _ _ _ _ _ _ _ _ _ _ _ _)
   | (with_reducible exact ih3 _ _ _ _ _ _ _ _ _ _ _)
   | (with_reducible exact sched_Dates.mono _ _ _ _ _ _ _ _ _ _ _)
   | (with_reducible exact tenorlaw8_awake.mono _)
   | (with_reducible exact tenorref8_SameInts.mono _ _ _)
   | (with_reducible exact LeO.refl _)
   | (with_reducible exact LeO.none _)
   | (with_reducible refine LeO.ite ?_ ?_)
   | (with_reducible refine LeO.bind ?_ (fun _ => ?_))
   | exact ih0 _ _ _ _ _
   | exact ih1 _ _ _ _ _ _ _ _ _ _ _ _
   | exact ih2 _ _ _ _ _ _ _ _ _ _ _ _ _ _
   | exact ih3 _ _ _ _ _ _ _ _ _ _ _
   | exact sched_Dates.mono _ _ _ _ _ _ _ _ _ _ _
   | exact tenorlaw8_awake.mono _
   | exact tenorref8_SameInts.mono _ _ _
   | exact LeO.none _
   | refine LeO.ite ?_ ?_
   | refine LeO.bind ?_ (fun _ => ?_)
  ·
   intro y0 y1 y2 y3 y4 y5 y6 y7 y8 y9 y10 y11 y12 y13
   unfold tenorlaw8_SchedEven.l0
   repeat' first
   | (with_reducible exact ih0 _ _ _ _ _)
   | (with_reducible exact ih1 _ _ _ _ _ _ _ _ _ _ _ _)
   | (with_reducible exact ih2 _ _ _ _ _ _ _ _ _ _ _ _ _ _)
   | (with_reducible exact ih3 _ _ _ _ _ _ _ _ _ _ _)
   | (with_reducible exact sched_Dates.mono _ _ _ _ _ _ _ _ _ _ _)
   | (with_reducible exact tenorlaw8_awake.mono _)
   | (with_reducible exact tenorref8_SameInts.mono _ _ _)
   | (with_reducible exact LeO.refl _)
   | (with_reducible exact LeO.none _)
   | (with_reducible refine LeO.ite ?_ ?_)
   | (with_reducible refine LeO.bind ?_ (fun _ => ?_))
   | exact ih0 _ _ _ _ _
   | exact ih1 _ _ _ _ _ _ _ _ _ _ _ _
   | exact ih2 _ _ _ _ _ _ _ _ _ _ _ _ _ _
   | exact ih3 _ _ _ _ _ _ _ _ _ _ _
   | exact sched_Dates.mono _ _ _ _ _ _ _ _ _ _ _
   | exact tenorlaw8_awake.mono _
   | exact tenorref8_SameInts.mono _ _ _
   | exact LeO.none _
   | refine LeO.ite ?_ ?_
   | refine LeO.bind ?_ (fun _ => ?_)
  ·
   intro y0 y1 y2 y3 y4 y5 y6 y7 y8 y9 y10
   unfold tenorlaw8_SchedEven.l1
   repeat' first
   | (with_reducible exact ih0 _ _ _ _ _)
   | (with_reducible exact ih1 _ _ _ _ _ _ _ _ _ _ _ _)
   | (with_reducible exact ih2 _ _ _ _ _ _ _ _ _ _ _ _ _ _)
   | (with_reducible exact ih3 _ _ _ _ _ _ _ _ _ _ _)
   | (with_reducible exact sched_Dates.mono _ _ _ _ _ _ _ _ _ _ _)
   | (with_reducible exact tenorlaw8_awake.mono _)
   | (with_reducible exact tenorref8_SameInts.mono _ _ _)
   | (with_reducible exact LeO.refl _)
   | (with_reducible exact LeO.none _)
   | (with_reducible refine LeO.ite ?_ ?_)
   | (with_reducible refine LeO.bind ?_ (fun _ => ?_))
   | exact ih0 _ _ _ _ _
   | exact ih1 _ _ _ _ _ _ _ _ _ _ _ _
   | exact ih2 _ _ _ _ _ _ _ _ _ _ _ _ _ _
   | exact ih3 _ _ _ _ _ _ _ _ _ _ _
   | exact sched_Dates.mono _ _ _ _ _ _ _ _ _ _ _
   | exact tenorlaw8_awake.mono _
   | exact tenorref8_SameInts.mono _ _ _
   | exact LeO.none _
   | refine LeO.ite ?_ ?_
   | refine LeO.bind ?_ (fun _ => ?_)
theorem tenorlaw8_SchedEven.mono : ∀ a0 a1 a2 a3 k, LeO (tenorlaw8_SchedEven.f k a0 a1 a2 a3) (tenorlaw8_SchedEven.f (k + 1) a0 a1 a2 a3) := by
 intro a0 a1 a2 a3 k
 obtain ⟨ih0, ih1, ih2, ih3⟩ := tenorlaw8_SchedEven.mono_l k
 unfold tenorlaw8_SchedEven.f
 repeat' first
   | (with_reducible exact ih0 _ _ _ _ _)
   | (with_reducible exact ih1 _ _ _ _ _ _ _ _ _ _ _ _)
   | (with_reducible exact ih2 _ _ _ _ _ _ _ _ _ _ _ _ _ _)
   | (with_reducible exact ih3 _ _ _ _ _ _ _ _ _ _ _)
   | (with_reducible exact sched_Dates.mono _ _ _ _ _ _ _ _ _ _ _)
   | (with_reducible exact tenorlaw8_awake.mono _)
   | (with_reducible exact tenorref8_SameInts.mono _ _ _)
   | (with_reducible exact LeO.refl _)
   | (with_reducible exact LeO.none _)
   | (with_reducible refine LeO.ite ?_ ?_)
   | (with_reducible refine LeO.bind ?_ (fun _ => ?_))
   | exact ih0 _ _ _ _ _
   | exact ih1 _ _ _ _ _ _ _ _ _ _ _ _
   | exact ih2 _ _ _ _ _ _ _ _ _ _ _ _ _ _
   | exact ih3 _ _ _ _ _ _ _ _ _ _ _
   | exact sched_Dates.mono _ _ _ _ _ _ _ _ _ _ _
   | exact tenorlaw8_awake.mono _
   | exact tenorref8_SameInts.mono _ _ _
   | exact LeO.none _
   | refine LeO.ite ?_ ?_
   | refine LeO.bind ?_ (fun _ => ?_)
set_option maxHeartbeats 8000000 in
set_option maxRecDepth 100000 in
theorem tenorlaw8_SchedEven.calls (k : Nat) (a0 : Int) (a1 : Int) (a2 : Int) (a3 : Bool) (r : Bool) (w : World) (h : tenorlaw8_SchedEven.f k a0 a1 a2 a3 = some r) (HT : r = true) :
  Calls Try.prog 20 #[.int .i64 a0, .int .i64 a1, .int .i64 a2, .bool a3] w fun e w' => e = .returned (.bool r) ∧ Below w.heap.size w w' := by
 have hu66 := Try.underlying66
 have HB := Aside0.mk (Below.refl w.heap.size w)
 have H : (if a0 < 0 then (tenorlaw8_SchedEven.j0 k a0 a1 a2 a3 true) else (if a0 > 109572 then (tenorlaw8_SchedEven.j0 k a0 a1 a2 a3 true) else (if a1 < 1 then (tenorlaw8_SchedEven.j0 k a0 a1 a2 a3 true) else (if a1 > 1200 then (tenorlaw8_SchedEven.j0 k a0 a1 a2 a3 true) else (if a2 < 1 then (tenorlaw8_SchedEven.j0 k a0 a1 a2 a3 true) else (tenorlaw8_SchedEven.j0 k a0 a1 a2 a3 (decide (a2 > 1200)))))))) = some r := h
 clear h;have HC5 := Aside0.mk H;clear H
 go_enter Try.func20, Try.ntmps20
 go_upto_region 1 with (fail)
 go_cut [37] (fun v37 wc => ∃ (kq : Nat) (x37_4 : Bool), v37 = .bool x37_4 ∧ Aside0 (tenorlaw8_SchedEven.j0 kq a0 a1 a2 a3 x37_4 = some r) ∧ Aside0 (kq ≤ k) ∧ Aside0 (Below w.heap.size w wc))
 case first =>
  have H := HC5.out;clear HC5
  by_cases c6 : a0 < 0
  ·
   rw [if_pos c6] at H
   have c6b0 : decide (a0 < 0) = true := decide_eq_true c6
   clear c6
   (first | rw [c6b0] | (simp only [i64_w, i32_w]; rw [c6b0]) | skip)
   have H' := Aside0.mk H;clear H
   go_wp2
   go_meet
   case rel => exact ⟨_, (true), (by first | rfl | (simp; done) | (simp [*]; done)), H', ⟨by first | omega | exact Nat.le_refl _⟩, ⟨by repeat (first | (with_reducible first | exact HB.out | apply below_alloc | apply pw_below_drewN | apply below_drew1) | exact HB.out)⟩⟩
  ·
   rw [if_neg c6] at H
   have c6b0 : decide (a0 < 0) = false := decide_eq_false c6
   clear c6
   (first | rw [c6b0] | (simp only [i64_w, i32_w]; rw [c6b0]) | skip)
   by_cases c7 : a0 > 109572
   ·
    rw [if_pos c7] at H
    have c7b0 : decide (109572 < a0) = true := decide_eq_true c7
    clear c7;have H' := Aside0.mk H;clear H
    go_wp2
    go_meet
    case rel => exact ⟨_, (true), (by first | rfl | (simp; done) | (simp [*]; done)), H', ⟨by first | omega | exact Nat.le_refl _⟩, ⟨by repeat (first | (with_reducible first | exact HB.out | apply below_alloc | apply pw_below_drewN | apply below_drew1) | exact HB.out)⟩⟩
   ·
    rw [if_neg c7] at H
    have c7b0 : decide (109572 < a0) = false := decide_eq_false c7
    clear c7
    by_cases c8 : a1 < 1
    ·
     rw [if_pos c8] at H
     have c8b0 : decide (a1 < 1) = true := decide_eq_true c8
     clear c8;have H' := Aside0.mk H;clear H
     go_wp2
     go_meet
     case rel => exact ⟨_, (true), (by first | rfl | (simp; done) | (simp [*]; done)), H', ⟨by first | omega | exact Nat.le_refl _⟩, ⟨by repeat (first | (with_reducible first | exact HB.out | apply below_alloc | apply pw_below_drewN | apply below_drew1) | exact HB.out)⟩⟩
    ·
     rw [if_neg c8] at H
     have c8b0 : decide (a1 < 1) = false := decide_eq_false c8
     clear c8
     by_cases c9 : a1 > 1200
     ·
      rw [if_pos c9] at H
      have c9b0 : decide (1200 < a1) = true := decide_eq_true c9
      clear c9;have H' := Aside0.mk H;clear H
      go_wp2
      go_meet
      case rel => exact ⟨_, (true), (by first | rfl | (simp; done) | (simp [*]; done)), H', ⟨by first | omega | exact Nat.le_refl _⟩, ⟨by repeat (first | (with_reducible first | exact HB.out | apply below_alloc | apply pw_below_drewN | apply below_drew1) | exact HB.out)⟩⟩
     ·
      rw [if_neg c9] at H
      have c9b0 : decide (1200 < a1) = false := decide_eq_false c9
      clear c9
      by_cases c10 : a2 < 1
      ·
       rw [if_pos c10] at H
       have c10b0 : decide (a2 < 1) = true := decide_eq_true c10
       clear c10;have H' := Aside0.mk H;clear H
       go_wp2
       go_meet
       case rel => exact ⟨_, (true), (by first | rfl | (simp; done) | (simp [*]; done)), H', ⟨by first | omega | exact Nat.le_refl _⟩, ⟨by repeat (first | (with_reducible first | exact HB.out | apply below_alloc | apply pw_below_drewN | apply below_drew1) | exact HB.out)⟩⟩
      ·
       rw [if_neg c10] at H
       have c10b0 : decide (a2 < 1) = false := decide_eq_false c10
       clear c10;have H' := Aside0.mk H;clear H
       go_wp2
       go_meet
       case rel => exact ⟨_, (decide (a2 > 1200)), (by first | rfl | (simp; done) | (simp [*]; done)), H', ⟨by first | omega | exact Nat.le_refl _⟩, ⟨by repeat (first | (with_reducible first | exact HB.out | apply below_alloc | apply pw_below_drewN | apply below_drew1) | exact HB.out)⟩⟩
 case rest =>
  clear HC5
  obtain ⟨kq, x37_4, rfl, HA, HJ4, HB⟩ := hcut
  cases kq with
  | zero => exact absurd HA.out (by simp [tenorlaw8_SchedEven.j0])
  | succ kj4 =>
   have H := HA.out;clear HA
   simp only [tenorlaw8_SchedEven.j0] at H
   by_cases c11 : x37_4 = true
   ·
    subst c11
    have H1 : ((tenorlaw8_awake.f kj4).bind fun t941 => (some t941)) = some r := by rw [if_pos rfl] at H; exact H
    clear H;have H := H1;clear H1;replace H := Option.bind_eq_some_iff.mp H
    obtain ⟨t941, A120, H⟩ := H
    replace H : (some t941) = some r := H
    have A12 := Aside0.mk A120;clear A120
    obtain rfl := Option.some.inj H
    go_wp2_with (first | ((with_reducible refine gate_callee (f := 49) rfl ?_); refine goesL_ (some 38) rfl rfl Try.func49 (by kernel_rfl) rfl #[] rfl (by (try simp only [List.map_toArray, List.map_cons, List.map_nil]); first | done | rfl | (simp only [List.length_drop, List.length_take]; rfl)) ?_; (with_reducible refine (tenorlaw8_awake.calls kj4  t941 _ A12.out).mono ?_); rintro e w13 ⟨rfl, hb⟩; refine ⟨_, rfl, ?_⟩; have n0_ := Aside0.mk (below_step (by repeat (first | (with_reducible first | exact HB.out | apply below_alloc | apply pw_below_drewN | apply below_drew1) | exact HB.out)) hb); clear HB; have HB := n0_; clear n0_; (try clear hb); (try clear hb2); (try clear hk); (try clear hi)))
    go_ret
    exact ⟨by first | rfl | (simp [errW_none, errW_some] <;> rfl) | (simp [*, errW_none, errW_some] <;> rfl), by repeat (first | (with_reducible first | exact HB.out | apply below_alloc | apply pw_below_drewN | apply below_drew1) | exact HB.out)⟩
   ·
    replace c11 := Bool.eq_false_iff.mpr c11;subst c11
    have H1 : (if a3 = true then (tenorlaw8_SchedEven.j1 kj4 a0 a2 (wrap64 (7 * a1)) a0 0 a1 2 1 0 0 0 0) else (tenorlaw8_SchedEven.j1 kj4 a0 a2 a1 a0 0 a1 1 1 0 0 0 0)) = some r := by rw [if_neg (show ¬ (false = true) by decide)] at H; exact H
    clear H;have H := H1;clear H1;have HC14 := Aside0.mk H;clear H
    go_upto_if 43 with (first | ((with_reducible refine gate_dst (N := 9) rfl ?_); refine box_event ?hg (N := 9) ?hd (cs := #[.int .i64 0, .int .i64 0, .int .i64 0, .int .i64 0, .int .i64 0, .int .i64 0, .int .i64 0, .int .i64 0, .int .i64 0, .slice none 0 0]) (t := 66) ?hr ?_; (case hd => rfl); (case hg => rfl); (case hr => first | (go_simp; done) | (go_simp; rfl)); intro gb942 hg w15 hbox hb; have n0_ := Aside0.mk (below_step (by repeat (first | (with_reducible first | exact HB.out | apply below_alloc | apply pw_below_drewN | apply below_drew1) | exact HB.out)) hb); have n1_ := Aside0.mk (hbox); have n2_ := Aside0.mk ((by rw [hg]; exact (below_size (by repeat (first | (with_reducible first | exact HB.out | apply below_alloc | apply pw_below_drewN | apply below_drew1) | exact HB.out))) : w.heap.size ≤ gb942)); have n3_ := Aside0.mk ((by rw [hg]; exact (below_size (by repeat (first | (with_reducible first | exact HB.out | apply below_alloc | apply pw_below_drewN | apply below_drew1) | exact HB.out))) : w.heap.size ≤ gb942)); clear HB; have HB := n0_; have BK942 := n1_; have GW942 := n2_; have GE942 := n3_; clear n0_ n1_ n2_ n3_; clear hb hbox hg; have hcz16_0 : w15.cell? ⟨gb942, 0, none⟩ = some (.int .i64 0) := (blk_cell BK942.out 0).trans rfl; have hcz16_1 : w15.cell? ⟨gb942, 1, none⟩ = some (.int .i64 0) := (blk_cell BK942.out 1).trans rfl; have hcz16_2 : w15.cell? ⟨gb942, 2, none⟩ = some (.int .i64 0) := (blk_cell BK942.out 2).trans rfl; have hcz16_3 : w15.cell? ⟨gb942, 3, none⟩ = some (.int .i64 0) := (blk_cell BK942.out 3).trans rfl; have hcz16_4 : w15.cell? ⟨gb942, 4, none⟩ = some (.int .i64 0) := (blk_cell BK942.out 4).trans rfl; have hcz16_5 : w15.cell? ⟨gb942, 5, none⟩ = some (.int .i64 0) := (blk_cell BK942.out 5).trans rfl; have hcz16_6 : w15.cell? ⟨gb942, 6, none⟩ = some (.int .i64 0) := (blk_cell BK942.out 6).trans rfl; have hcz16_7 : w15.cell? ⟨gb942, 7, none⟩ = some (.int .i64 0) := (blk_cell BK942.out 7).trans rfl; have hcz16_8 : w15.cell? ⟨gb942, 8, none⟩ = some (.int .i64 0) := (blk_cell BK942.out 8).trans rfl; have hcz16_9 : w15.cell? ⟨gb942, 9, none⟩ = some (.slice none 0 0) := (blk_cell BK942.out 9).trans rfl; have hfz16_0 := blk_frozen BK942.out 0; have hfz16_1 := blk_frozen BK942.out 1; have hfz16_2 := blk_frozen BK942.out 2; have hfz16_3 := blk_frozen BK942.out 3; have hfz16_4 := blk_frozen BK942.out 4; have hfz16_5 := blk_frozen BK942.out 5; have hfz16_6 := blk_frozen BK942.out 6; have hfz16_7 := blk_frozen BK942.out 7; have hfz16_8 := blk_frozen BK942.out 8; have hfz16_9 := blk_frozen BK942.out 9))
    (try simp only [Act.put, List.setIfInBounds_toArray, List.set_cons_zero, List.set_cons_succ])
    go_cut [10] (fun v10 wc => ∃ (kq : Nat) (x10_13 : Int) (x943003_13 : Int), v10 = .int .i64 x10_13 ∧ Aside0 (tenorlaw8_SchedEven.j1 kq a0 a2 x10_13 a0 0 a1 x943003_13 1 0 0 0 0 = some r) ∧ Aside0 (kq ≤ kj4) ∧ Aside0 (wc.heap[gb942]? = some (.cells #[.int .i64 a0, .int .i64 0, .int .i64 a1, .int .i64 x943003_13, .int .i64 1, .int .i64 0, .int .i64 0, .int .i64 0, .int .i64 0, (.slice none 0 0)] 66 (0, 0))) ∧ Aside0 (Below w.heap.size w wc))
    case first =>
     have H := HC14.out;clear HC14
     by_cases c17 : a3 = true
     ·
      subst c17
      have H1 : (tenorlaw8_SchedEven.j1 kj4 a0 a2 (wrap64 (7 * a1)) a0 0 a1 2 1 0 0 0 0) = some r := by rw [if_pos rfl] at H; exact H
      clear H;have H := H1;clear H1;have H' := Aside0.mk H;clear H
      have hcz18_0 : w15.cell? ⟨gb942, 0, none⟩ = some (.int .i64 0) := (blk_cell BK942.out 0).trans rfl
      have hcz18_1 : w15.cell? ⟨gb942, 1, none⟩ = some (.int .i64 0) := (blk_cell BK942.out 1).trans rfl
      have hcz18_2 : w15.cell? ⟨gb942, 2, none⟩ = some (.int .i64 0) := (blk_cell BK942.out 2).trans rfl
      have hcz18_3 : w15.cell? ⟨gb942, 3, none⟩ = some (.int .i64 0) := (blk_cell BK942.out 3).trans rfl
      have hcz18_4 : w15.cell? ⟨gb942, 4, none⟩ = some (.int .i64 0) := (blk_cell BK942.out 4).trans rfl
      have hcz18_5 : w15.cell? ⟨gb942, 5, none⟩ = some (.int .i64 0) := (blk_cell BK942.out 5).trans rfl
      have hcz18_6 : w15.cell? ⟨gb942, 6, none⟩ = some (.int .i64 0) := (blk_cell BK942.out 6).trans rfl
      have hcz18_7 : w15.cell? ⟨gb942, 7, none⟩ = some (.int .i64 0) := (blk_cell BK942.out 7).trans rfl
      have hcz18_8 : w15.cell? ⟨gb942, 8, none⟩ = some (.int .i64 0) := (blk_cell BK942.out 8).trans rfl
      have hcz18_9 : w15.cell? ⟨gb942, 9, none⟩ = some (.slice none 0 0) := (blk_cell BK942.out 9).trans rfl
      have hfz18_0 := blk_frozen BK942.out 0;have hfz18_1 := blk_frozen BK942.out 1;have hfz18_2 := blk_frozen BK942.out 2;have hfz18_3 := blk_frozen BK942.out 3;have hfz18_4 := blk_frozen BK942.out 4;have hfz18_5 := blk_frozen BK942.out 5;have hfz18_6 := blk_frozen BK942.out 6;have hfz18_7 := blk_frozen BK942.out 7;have hfz18_8 := blk_frozen BK942.out 8;have hfz18_9 := blk_frozen BK942.out 9
      go_wp2
      go_meet
      case rel => exact ⟨_, (wrap64 (7 * a1)), (2), (by first | rfl | (simp; done) | (simp [*]; done)), H', ⟨by have := HJ4.out; first | omega | exact Nat.le_refl _⟩, ⟨by (with_reducible repeat (first | refine blk_drewN ?_ _ | refine blk_drew ?_ | refine blk_alloc ?_ _)); refine blk_put (cs := #[.int .i64 a0, .int .i64 0, .int .i64 a1, .int .i64 1, .int .i64 1, .int .i64 0, .int .i64 0, .int .i64 0, .int .i64 0, .slice none 0 0]) ?_ 3 _ rfl; (with_reducible repeat (first | refine blk_drewN ?_ _ | refine blk_drew ?_ | refine blk_alloc ?_ _)); refine blk_put (cs := #[.int .i64 a0, .int .i64 0, .int .i64 a1, .int .i64 1, .int .i64 1, .int .i64 0, .int .i64 0, .int .i64 0, .int .i64 0, .slice none 0 0]) ?_ 9 _ rfl; (with_reducible repeat (first | refine blk_drewN ?_ _ | refine blk_drew ?_ | refine blk_alloc ?_ _)); refine blk_put (cs := #[.int .i64 a0, .int .i64 0, .int .i64 a1, .int .i64 1, .int .i64 1, .int .i64 0, .int .i64 0, .int .i64 0, .int .i64 0, .slice none 0 0]) ?_ 8 _ rfl; (with_reducible repeat (first | refine blk_drewN ?_ _ | refine blk_drew ?_ | refine blk_alloc ?_ _)); refine blk_put (cs := #[.int .i64 a0, .int .i64 0, .int .i64 a1, .int .i64 1, .int .i64 1, .int .i64 0, .int .i64 0, .int .i64 0, .int .i64 0, .slice none 0 0]) ?_ 7 _ rfl; (with_reducible repeat (first | refine blk_drewN ?_ _ | refine blk_drew ?_ | refine blk_alloc ?_ _)); refine blk_put (cs := #[.int .i64 a0, .int .i64 0, .int .i64 a1, .int .i64 1, .int .i64 1, .int .i64 0, .int .i64 0, .int .i64 0, .int .i64 0, .slice none 0 0]) ?_ 6 _ rfl; (with_reducible repeat (first | refine blk_drewN ?_ _ | refine blk_drew ?_ | refine blk_alloc ?_ _)); refine blk_put (cs := #[.int .i64 a0, .int .i64 0, .int .i64 a1, .int .i64 1, .int .i64 1, .int .i64 0, .int .i64 0, .int .i64 0, .int .i64 0, .slice none 0 0]) ?_ 5 _ rfl; (with_reducible repeat (first | refine blk_drewN ?_ _ | refine blk_drew ?_ | refine blk_alloc ?_ _)); refine blk_put (cs := #[.int .i64 a0, .int .i64 0, .int .i64 a1, .int .i64 1, .int .i64 0, .int .i64 0, .int .i64 0, .int .i64 0, .int .i64 0, .slice none 0 0]) ?_ 4 _ rfl; (with_reducible repeat (first | refine blk_drewN ?_ _ | refine blk_drew ?_ | refine blk_alloc ?_ _)); refine blk_put (cs := #[.int .i64 a0, .int .i64 0, .int .i64 a1, .int .i64 0, .int .i64 0, .int .i64 0, .int .i64 0, .int .i64 0, .int .i64 0, .slice none 0 0]) ?_ 3 _ rfl; (with_reducible repeat (first | refine blk_drewN ?_ _ | refine blk_drew ?_ | refine blk_alloc ?_ _)); refine blk_put (cs := #[.int .i64 a0, .int .i64 0, .int .i64 0, .int .i64 0, .int .i64 0, .int .i64 0, .int .i64 0, .int .i64 0, .int .i64 0, .slice none 0 0]) ?_ 2 _ rfl; (with_reducible repeat (first | refine blk_drewN ?_ _ | refine blk_drew ?_ | refine blk_alloc ?_ _)); refine blk_put (cs := #[.int .i64 a0, .int .i64 0, .int .i64 0, .int .i64 0, .int .i64 0, .int .i64 0, .int .i64 0, .int .i64 0, .int .i64 0, .slice none 0 0]) ?_ 1 _ rfl; (with_reducible repeat (first | refine blk_drewN ?_ _ | refine blk_drew ?_ | refine blk_alloc ?_ _)); refine blk_put (cs := #[.int .i64 0, .int .i64 0, .int .i64 0, .int .i64 0, .int .i64 0, .int .i64 0, .int .i64 0, .int .i64 0, .int .i64 0, .slice none 0 0]) ?_ 0 _ rfl; (with_reducible repeat (first | refine blk_drewN ?_ _ | refine blk_drew ?_ | refine blk_alloc ?_ _)); exact BK942.out⟩, ⟨by repeat (first | (with_reducible first | exact HB.out | apply below_alloc | apply pw_below_drewN | apply below_drew1 | refine below_set ?_ GE942.out) | exact HB.out)⟩⟩
     ·
      replace c17 := Bool.eq_false_iff.mpr c17;subst c17
      have H1 : (tenorlaw8_SchedEven.j1 kj4 a0 a2 a1 a0 0 a1 1 1 0 0 0 0) = some r := by rw [if_neg (show ¬ (false = true) by decide)] at H; exact H
      clear H;have H := H1;clear H1;have H' := Aside0.mk H;clear H
      go_wp2
      go_meet
      case rel => exact ⟨_, (a1), (1), (by first | rfl | (simp; done) | (simp [*]; done)), H', ⟨by have := HJ4.out; first | omega | exact Nat.le_refl _⟩, ⟨by (with_reducible repeat (first | refine blk_drewN ?_ _ | refine blk_drew ?_ | refine blk_alloc ?_ _)); refine blk_put (cs := #[.int .i64 a0, .int .i64 0, .int .i64 a1, .int .i64 1, .int .i64 1, .int .i64 0, .int .i64 0, .int .i64 0, .int .i64 0, .slice none 0 0]) ?_ 9 _ rfl; (with_reducible repeat (first | refine blk_drewN ?_ _ | refine blk_drew ?_ | refine blk_alloc ?_ _)); refine blk_put (cs := #[.int .i64 a0, .int .i64 0, .int .i64 a1, .int .i64 1, .int .i64 1, .int .i64 0, .int .i64 0, .int .i64 0, .int .i64 0, .slice none 0 0]) ?_ 8 _ rfl; (with_reducible repeat (first | refine blk_drewN ?_ _ | refine blk_drew ?_ | refine blk_alloc ?_ _)); refine blk_put (cs := #[.int .i64 a0, .int .i64 0, .int .i64 a1, .int .i64 1, .int .i64 1, .int .i64 0, .int .i64 0, .int .i64 0, .int .i64 0, .slice none 0 0]) ?_ 7 _ rfl; (with_reducible repeat (first | refine blk_drewN ?_ _ | refine blk_drew ?_ | refine blk_alloc ?_ _)); refine blk_put (cs := #[.int .i64 a0, .int .i64 0, .int .i64 a1, .int .i64 1, .int .i64 1, .int .i64 0, .int .i64 0, .int .i64 0, .int .i64 0, .slice none 0 0]) ?_ 6 _ rfl; (with_reducible repeat (first | refine blk_drewN ?_ _ | refine blk_drew ?_ | refine blk_alloc ?_ _)); refine blk_put (cs := #[.int .i64 a0, .int .i64 0, .int .i64 a1, .int .i64 1, .int .i64 1, .int .i64 0, .int .i64 0, .int .i64 0, .int .i64 0, .slice none 0 0]) ?_ 5 _ rfl; (with_reducible repeat (first | refine blk_drewN ?_ _ | refine blk_drew ?_ | refine blk_alloc ?_ _)); refine blk_put (cs := #[.int .i64 a0, .int .i64 0, .int .i64 a1, .int .i64 1, .int .i64 0, .int .i64 0, .int .i64 0, .int .i64 0, .int .i64 0, .slice none 0 0]) ?_ 4 _ rfl; (with_reducible repeat (first | refine blk_drewN ?_ _ | refine blk_drew ?_ | refine blk_alloc ?_ _)); refine blk_put (cs := #[.int .i64 a0, .int .i64 0, .int .i64 a1, .int .i64 0, .int .i64 0, .int .i64 0, .int .i64 0, .int .i64 0, .int .i64 0, .slice none 0 0]) ?_ 3 _ rfl; (with_reducible repeat (first | refine blk_drewN ?_ _ | refine blk_drew ?_ | refine blk_alloc ?_ _)); refine blk_put (cs := #[.int .i64 a0, .int .i64 0, .int .i64 0, .int .i64 0, .int .i64 0, .int .i64 0, .int .i64 0, .int .i64 0, .int .i64 0, .slice none 0 0]) ?_ 2 _ rfl; (with_reducible repeat (first | refine blk_drewN ?_ _ | refine blk_drew ?_ | refine blk_alloc ?_ _)); refine blk_put (cs := #[.int .i64 a0, .int .i64 0, .int .i64 0, .int .i64 0, .int .i64 0, .int .i64 0, .int .i64 0, .int .i64 0, .int .i64 0, .slice none 0 0]) ?_ 1 _ rfl; (with_reducible repeat (first | refine blk_drewN ?_ _ | refine blk_drew ?_ | refine blk_alloc ?_ _)); refine blk_put (cs := #[.int .i64 0, .int .i64 0, .int .i64 0, .int .i64 0, .int .i64 0, .int .i64 0, .int .i64 0, .int .i64 0, .int .i64 0, .slice none 0 0]) ?_ 0 _ rfl; (with_reducible repeat (first | refine blk_drewN ?_ _ | refine blk_drew ?_ | refine blk_alloc ?_ _)); exact BK942.out⟩, ⟨by repeat (first | (with_reducible first | exact HB.out | apply below_alloc | apply pw_below_drewN | apply below_drew1 | refine below_set ?_ GE942.out) | exact HB.out)⟩⟩
    case rest =>
     clear HC14
     obtain ⟨kq, x10_13, x943003_13, rfl, HA, HJ13, BK942, HB⟩ := hcut
     cases kq with
     | zero => exact absurd HA.out (by simp [tenorlaw8_SchedEven.j1])
     | succ kj13 =>
      have H := HA.out;clear HA
      simp only [tenorlaw8_SchedEven.j1] at H
      by_cases c19 : (wrap64 (a0 + (wrap64 (a2 * x10_13)))) > 109572
      ·
       rw [if_pos c19] at H
       have c19b0 : decide (109572 < (wrap64 (a0 + (wrap64 (a2 * x10_13))))) = true := decide_eq_true c19
       clear c19;replace H := Option.bind_eq_some_iff.mp H
       obtain ⟨t943, A200, H⟩ := H
       replace H : (some t943) = some r := H
       have A20 := Aside0.mk A200;clear A200
       obtain rfl := Option.some.inj H
       have hcz21_0 : wc.cell? ⟨gb942, 0, none⟩ = some (.int .i64 a0) := (blk_cell BK942.out 0).trans rfl
       have hcz21_1 : wc.cell? ⟨gb942, 1, none⟩ = some (.int .i64 0) := (blk_cell BK942.out 1).trans rfl
       have hcz21_2 : wc.cell? ⟨gb942, 2, none⟩ = some (.int .i64 a1) := (blk_cell BK942.out 2).trans rfl
       have hcz21_3 : wc.cell? ⟨gb942, 3, none⟩ = some (.int .i64 x943003_13) := (blk_cell BK942.out 3).trans rfl
       have hcz21_4 : wc.cell? ⟨gb942, 4, none⟩ = some (.int .i64 1) := (blk_cell BK942.out 4).trans rfl
       have hcz21_5 : wc.cell? ⟨gb942, 5, none⟩ = some (.int .i64 0) := (blk_cell BK942.out 5).trans rfl
       have hcz21_6 : wc.cell? ⟨gb942, 6, none⟩ = some (.int .i64 0) := (blk_cell BK942.out 6).trans rfl
       have hcz21_7 : wc.cell? ⟨gb942, 7, none⟩ = some (.int .i64 0) := (blk_cell BK942.out 7).trans rfl
       have hcz21_8 : wc.cell? ⟨gb942, 8, none⟩ = some (.int .i64 0) := (blk_cell BK942.out 8).trans rfl
       have hcz21_9 : wc.cell? ⟨gb942, 9, none⟩ = some (.slice none 0 0) := (blk_cell BK942.out 9).trans rfl
       have hfz21_0 := blk_frozen BK942.out 0;have hfz21_1 := blk_frozen BK942.out 1;have hfz21_2 := blk_frozen BK942.out 2;have hfz21_3 := blk_frozen BK942.out 3;have hfz21_4 := blk_frozen BK942.out 4;have hfz21_5 := blk_frozen BK942.out 5;have hfz21_6 := blk_frozen BK942.out 6;have hfz21_7 := blk_frozen BK942.out 7;have hfz21_8 := blk_frozen BK942.out 8;have hfz21_9 := blk_frozen BK942.out 9
       go_wp2_with (first | ((with_reducible refine gate_callee (f := 49) rfl ?_); refine goesL_ (some 56) rfl rfl Try.func49 (by kernel_rfl) rfl #[] rfl (by (try simp only [List.map_toArray, List.map_cons, List.map_nil]); first | done | rfl | (simp only [List.length_drop, List.length_take]; rfl)) ?_; (with_reducible refine (tenorlaw8_awake.calls kj13  t943 _ A20.out).mono ?_); rintro e w22 ⟨rfl, hb⟩; refine ⟨_, rfl, ?_⟩; have n0_ := Aside0.mk (blk_below (g := gb942) (o := .cells #[.int .i64 a0, .int .i64 (wrap64 (a0 + (wrap64 (a2 * x10_13)))), .int .i64 a1, .int .i64 x943003_13, .int .i64 1, .int .i64 0, .int .i64 0, .int .i64 0, .int .i64 0, .slice none 0 0] 66 (0, 0)) (by (with_reducible repeat (first | refine blk_drewN ?_ _ | refine blk_drew ?_ | refine blk_alloc ?_ _)); refine blk_put (cs := #[.int .i64 a0, .int .i64 0, .int .i64 a1, .int .i64 x943003_13, .int .i64 1, .int .i64 0, .int .i64 0, .int .i64 0, .int .i64 0, .slice none 0 0]) ?_ 1 _ rfl; (with_reducible repeat (first | refine blk_drewN ?_ _ | refine blk_drew ?_ | refine blk_alloc ?_ _)); exact BK942.out) hb); have n1_ := Aside0.mk (below_step (by repeat (first | (with_reducible first | exact HB.out | apply below_alloc | apply pw_below_drewN | apply below_drew1 | refine below_set ?_ GE942.out) | exact HB.out)) hb); clear BK942; clear HB; have BK942 := n0_; have HB := n1_; clear n0_ n1_; (try clear hb); (try clear hb2); (try clear hk); (try clear hi)))
       go_ret
       exact ⟨by first | rfl | (simp [errW_none, errW_some] <;> rfl) | (simp [*, errW_none, errW_some] <;> rfl), by repeat (first | (with_reducible first | exact HB.out | apply below_alloc | apply pw_below_drewN | apply below_drew1 | refine below_set ?_ GE942.out) | exact HB.out)⟩
      ·
       rw [if_neg c19] at H
       have c19b0 : decide (109572 < (wrap64 (a0 + (wrap64 (a2 * x10_13))))) = false := decide_eq_false c19
       clear c19;have H' := Aside0.mk H;clear H
       have hcz23_0 : wc.cell? ⟨gb942, 0, none⟩ = some (.int .i64 a0) := (blk_cell BK942.out 0).trans rfl
       have hcz23_1 : wc.cell? ⟨gb942, 1, none⟩ = some (.int .i64 0) := (blk_cell BK942.out 1).trans rfl
       have hcz23_2 : wc.cell? ⟨gb942, 2, none⟩ = some (.int .i64 a1) := (blk_cell BK942.out 2).trans rfl
       have hcz23_3 : wc.cell? ⟨gb942, 3, none⟩ = some (.int .i64 x943003_13) := (blk_cell BK942.out 3).trans rfl
       have hcz23_4 : wc.cell? ⟨gb942, 4, none⟩ = some (.int .i64 1) := (blk_cell BK942.out 4).trans rfl
       have hcz23_5 : wc.cell? ⟨gb942, 5, none⟩ = some (.int .i64 0) := (blk_cell BK942.out 5).trans rfl
       have hcz23_6 : wc.cell? ⟨gb942, 6, none⟩ = some (.int .i64 0) := (blk_cell BK942.out 6).trans rfl
       have hcz23_7 : wc.cell? ⟨gb942, 7, none⟩ = some (.int .i64 0) := (blk_cell BK942.out 7).trans rfl
       have hcz23_8 : wc.cell? ⟨gb942, 8, none⟩ = some (.int .i64 0) := (blk_cell BK942.out 8).trans rfl
       have hcz23_9 : wc.cell? ⟨gb942, 9, none⟩ = some (.slice none 0 0) := (blk_cell BK942.out 9).trans rfl
       have hfz23_0 := blk_frozen BK942.out 0;have hfz23_1 := blk_frozen BK942.out 1;have hfz23_2 := blk_frozen BK942.out 2;have hfz23_3 := blk_frozen BK942.out 3;have hfz23_4 := blk_frozen BK942.out 4;have hfz23_5 := blk_frozen BK942.out 5;have hfz23_6 := blk_frozen BK942.out 6;have hfz23_7 := blk_frozen BK942.out 7;have hfz23_8 := blk_frozen BK942.out 8;have hfz23_9 := blk_frozen BK942.out 9
       go_wp2
       go_loopg [11, 12] kj13 (fun kq v11 v12 w' => ∃ (x11_3 : List Int) (x12_3 : Int), v12 = .int .i64 x12_3 ∧ Aside0 (tenorlaw8_SchedEven.l0 kq a0 a2 x10_13 x11_3 x12_3 a0 (wrap64 (a0 + (wrap64 (a2 * x10_13)))) a1 x943003_13 1 0 0 0 0 = some r) ∧ Aside0 (kq ≤ kj13) ∧ Aside0 (Kd.R (Kd.int .i64) 3 w' w.heap.size (fun _ => True) v11 x11_3) ∧ Aside0 (w'.heap[gb942]? = some (.cells #[.int .i64 a0, .int .i64 (wrap64 (a0 + (wrap64 (a2 * x10_13)))), .int .i64 a1, .int .i64 x943003_13, .int .i64 1, .int .i64 0, .int .i64 0, .int .i64 0, .int .i64 0, (.slice none 0 0)] 66 (0, 0))) ∧ Aside0 (Below w.heap.size w w'))
       case atStart => exact ⟨(([] : List Int)), (0), (by first | rfl | (simp; done) | (simp [*]; done)), H', ⟨Nat.le_refl _⟩, ⟨by first | exact Kd.R_nil _ _ _ _ _ | exact Kd.N_nil _ _ _ _ _ | exact Kd.V_nil _ _ _ _ _ | exact Kd.Q_nil _ _ _ _ _ | exact Kd.S_nil _ _ _ _ _⟩, ⟨by (with_reducible repeat (first | refine blk_drewN ?_ _ | refine blk_drew ?_ | refine blk_alloc ?_ _)); refine blk_put (cs := #[.int .i64 a0, .int .i64 0, .int .i64 a1, .int .i64 x943003_13, .int .i64 1, .int .i64 0, .int .i64 0, .int .i64 0, .int .i64 0, .slice none 0 0]) ?_ 1 _ rfl; (with_reducible repeat (first | refine blk_drewN ?_ _ | refine blk_drew ?_ | refine blk_alloc ?_ _)); exact BK942.out⟩, ⟨by repeat (first | (with_reducible first | exact HB.out | apply below_alloc | apply pw_below_drewN | apply below_drew1 | refine below_set ?_ GE942.out) | exact HB.out)⟩⟩
       case round =>
        clear H'
        obtain ⟨x11_3, x12_3, rfl, HA, HK3, HO_11, BK942, HB⟩ := hrel
        cases gk with
        | zero => exact absurd HA.out (by simp [tenorlaw8_SchedEven.l0])
        | succ k3 =>
         have H := HA.out;clear HA
         simp only [tenorlaw8_SchedEven.l0] at H
         by_cases c24 : x12_3 ≤ a2
         ·
          rw [if_pos c24] at H
          have c24b0 : decide (x12_3 ≤ a2) = true := decide_eq_true c24
          clear c24
          by_cases c25 : x11_3.length < 17592186044416
          ·
           rw [if_pos c25] at H
           have LMc25 := Aside0.mk c25;clear c25
           obtain ⟨y944, hy944⟩ : ∃ y_ : List Int, y_ = (x11_3 ++ [wrap64 (a0 + (wrap64 (x12_3 * x10_13)))]) := ⟨_, rfl⟩
           replace H : (tenorlaw8_SchedEven.l0 k3 a0 a2 x10_13 y944 (wrap64 (x12_3 + 1)) a0 (wrap64 (a0 + (wrap64 (a2 * x10_13)))) a1 x943003_13 1 0 0 0 0) = some r := by first | (rw [hy944]; with_reducible exact H) | (have H2_ := (Option.bind_some _ _).symm.trans H; rw [hy944]; with_reducible exact H2_) | (have H2_ := (Option.bind_some _ _).symm.trans H; with_reducible exact H2_) | with_reducible exact H | (rw [hy944]; exact H) | exact H
           have Ny944 := Aside0.mk hy944;clear hy944;have H' := Aside0.mk H;clear H
           go_wp2_with (first | ((with_reducible refine gate_builtin (b := .append) (xs := #[.tmp 62, .tmp 68]) rfl ?_); at_builtin; refine Kd.R_append (Kd.int .i64) (w0 := w) w.heap.size rfl (.tmp 62) (.tmp 68) 67 3 (.int .i64 0) 8 rfl Try.underlying67 info3 rfl (by decide) (by omega) u11 x11_3 (wrap64 (a0 + (wrap64 (x12_3 * x10_13)))) [.int .i64 (wrap64 (a0 + (wrap64 (x12_3 * x10_13))))] (fun _ => True) (fun _ => False) rfl rfl ?aP (fun _ hk => hk.elim) ?aF ?aO ?aB ?aS ?aL ?_; (case aP => exact rfl); (case aB => exact (by repeat (first | (with_reducible first | exact HB.out | apply below_alloc | apply pw_below_drewN | apply below_drew1 | refine below_set ?_ GE942.out) | exact HB.out))); (case aF => exact (fun _ _ => trivial)); (case aO => exact (by (with_reducible repeat (first | apply Kd.R_alloc | apply Kd.R_drewN | apply Kd.R_drew)); exact HO_11.out)); (case aS => exact (below_size (by repeat (first | (with_reducible first | exact HB.out | apply below_alloc | apply pw_below_drewN | apply below_drew1 | refine below_set ?_ GE942.out) | exact HB.out)))); (case aL => have := LMc25.out; omega); intro v945 w26 ho hb hg hat; rw [← Ny944.out] at ho; have n0_ := Aside0.mk (blk_grown (g := gb942) (o := .cells #[.int .i64 a0, .int .i64 (wrap64 (a0 + (wrap64 (a2 * x10_13)))), .int .i64 a1, .int .i64 x943003_13, .int .i64 1, .int .i64 0, .int .i64 0, .int .i64 0, .int .i64 0, .slice none 0 0] 66 (0, 0)) (by (with_reducible repeat (first | refine blk_drewN ?_ _ | refine blk_drew ?_ | refine blk_alloc ?_ _)); exact BK942.out) hg (Kd.R_ne HO_11.out BK942.out (by decide))); have n1_ := Aside0.mk (hb); have n2_ := Aside0.mk (ho); clear BK942; clear HB; clear HO_11; have BK942 := n0_; have HB := n1_; have HO946 := n2_; clear n0_ n1_ n2_; clear ho hb hg hat))
           go_roundg k3
           case measure => have := HJ4.out; have := HJ13.out; have := HK3.out; omega
           case rel => exact ⟨(y944), (wrap64 (x12_3 + 1)), (by first | rfl | (simp; done) | (simp [*]; done)), H', ⟨by have := HJ4.out; have := HJ13.out; have := HK3.out; omega⟩, ⟨by (with_reducible repeat (first | apply Kd.R_alloc | apply Kd.R_drewN | apply Kd.R_drew)); exact HO946.out⟩, ⟨by (with_reducible repeat (first | refine blk_drewN ?_ _ | refine blk_drew ?_ | refine blk_alloc ?_ _)); exact BK942.out⟩, ⟨by repeat (first | (with_reducible first | exact HB.out | apply below_alloc | apply pw_below_drewN | apply below_drew1 | refine below_set ?_ GE942.out) | exact HB.out)⟩⟩
          ·
           rw [if_neg c25] at H
           exact absurd H (by simp)
         ·
          rw [if_neg c24] at H
          have c24b0 : decide (x12_3 ≤ a2) = false := decide_eq_false c24
          clear c24;have H' := Aside0.mk H;clear H
          go_wp2
          go_loopg [13] k3 (fun kq v13 w' => ∃ (x13_4 : Int) (x943004_4 : Int), v13 = .int .i64 x13_4 ∧ Aside0 (tenorlaw8_SchedEven.l1 kq x11_3 x13_4 a0 (wrap64 (a0 + (wrap64 (a2 * x10_13)))) a1 x943003_13 x943004_4 0 0 0 0 = some r) ∧ Aside0 (kq ≤ k3) ∧ Aside0 (Kd.R (Kd.int .i64) 3 w' w.heap.size (fun _ => True) u11 x11_3) ∧ Aside0 (w'.heap[gb942]? = some (.cells #[.int .i64 a0, .int .i64 (wrap64 (a0 + (wrap64 (a2 * x10_13)))), .int .i64 a1, .int .i64 x943003_13, .int .i64 x943004_4, .int .i64 0, .int .i64 0, .int .i64 0, .int .i64 0, (.slice none 0 0)] 66 (0, 0))) ∧ Aside0 (Below w.heap.size w w'))
          case atStart => exact ⟨(1), (1), (by first | rfl | (simp; done) | (simp [*]; done)), H', ⟨Nat.le_refl _⟩, ⟨by (with_reducible repeat (first | apply Kd.R_alloc | apply Kd.R_drewN | apply Kd.R_drew)); exact HO_11.out⟩, ⟨by (with_reducible repeat (first | refine blk_drewN ?_ _ | refine blk_drew ?_ | refine blk_alloc ?_ _)); exact BK942.out⟩, ⟨by repeat (first | (with_reducible first | exact HB.out | apply below_alloc | apply pw_below_drewN | apply below_drew1 | refine below_set ?_ GE942.out) | exact HB.out)⟩⟩
          case round =>
           clear H'
           obtain ⟨x13_4, x943004_4, rfl, HA, HK4, HO_11, BK942, HB⟩ := hrel
           cases gk with
           | zero => exact absurd HA.out (by simp [tenorlaw8_SchedEven.l1])
           | succ k4 =>
            have H := HA.out;clear HA
            simp only [tenorlaw8_SchedEven.l1] at H
            by_cases c27 : x13_4 ≤ 4
            ·
             rw [if_pos c27] at H
             have c27b0 : decide (x13_4 ≤ 4) = true := decide_eq_true c27
             clear c27;replace H := Option.bind_eq_some_iff.mp H
             obtain ⟨⟨t948, t951⟩, A280, H⟩ := H
             replace H : (if t951 = 0 then ((tenorref8_SameInts.f k4 t948 x11_3).bind fun t952 => (if t952 = true then (tenorlaw8_SchedEven.l1 k4 x11_3 (wrap64 (x13_4 + 1)) a0 (wrap64 (a0 + (wrap64 (a2 * x10_13)))) a1 x943003_13 x13_4 0 0 0 0) else (some false))) else (some false)) = some r := H
             have A28 := Aside0.mk A280;clear A280
             by_cases c29 : t951 = 0
             ·
              rw [if_pos c29] at H
              have c29b0 : (t951 == 0) = true := beq_iff_eq.mpr c29
              have c29b1 : (t951 != 0) = false := bne_eq_false_iff_eq.mpr c29
              clear c29;replace H := Option.bind_eq_some_iff.mp H
              obtain ⟨t952, A300, H⟩ := H
              replace H : (if t952 = true then (tenorlaw8_SchedEven.l1 k4 x11_3 (wrap64 (x13_4 + 1)) a0 (wrap64 (a0 + (wrap64 (a2 * x10_13)))) a1 x943003_13 x13_4 0 0 0 0) else (some false)) = some r := H
              have A30 := Aside0.mk A300;clear A300
              by_cases c31 : t952 = true
              ·
               subst c31
               have H1 : (tenorlaw8_SchedEven.l1 k4 x11_3 (wrap64 (x13_4 + 1)) a0 (wrap64 (a0 + (wrap64 (a2 * x10_13)))) a1 x943003_13 x13_4 0 0 0 0) = some r := by rw [if_pos rfl] at H; exact H
               clear H;have H := H1;clear H1;have H' := Aside0.mk H;clear H
               have hcz32_0 : wr.cell? ⟨gb942, 0, none⟩ = some (.int .i64 a0) := (blk_cell BK942.out 0).trans rfl
               have hcz32_1 : wr.cell? ⟨gb942, 1, none⟩ = some (.int .i64 (wrap64 (a0 + (wrap64 (a2 * x10_13))))) := (blk_cell BK942.out 1).trans rfl
               have hcz32_2 : wr.cell? ⟨gb942, 2, none⟩ = some (.int .i64 a1) := (blk_cell BK942.out 2).trans rfl
               have hcz32_3 : wr.cell? ⟨gb942, 3, none⟩ = some (.int .i64 x943003_13) := (blk_cell BK942.out 3).trans rfl
               have hcz32_4 : wr.cell? ⟨gb942, 4, none⟩ = some (.int .i64 x943004_4) := (blk_cell BK942.out 4).trans rfl
               have hcz32_5 : wr.cell? ⟨gb942, 5, none⟩ = some (.int .i64 0) := (blk_cell BK942.out 5).trans rfl
               have hcz32_6 : wr.cell? ⟨gb942, 6, none⟩ = some (.int .i64 0) := (blk_cell BK942.out 6).trans rfl
               have hcz32_7 : wr.cell? ⟨gb942, 7, none⟩ = some (.int .i64 0) := (blk_cell BK942.out 7).trans rfl
               have hcz32_8 : wr.cell? ⟨gb942, 8, none⟩ = some (.int .i64 0) := (blk_cell BK942.out 8).trans rfl
               have hcz32_9 : wr.cell? ⟨gb942, 9, none⟩ = some (.slice none 0 0) := (blk_cell BK942.out 9).trans rfl
               have hfz32_0 := blk_frozen BK942.out 0;have hfz32_1 := blk_frozen BK942.out 1;have hfz32_2 := blk_frozen BK942.out 2;have hfz32_3 := blk_frozen BK942.out 3;have hfz32_4 := blk_frozen BK942.out 4;have hfz32_5 := blk_frozen BK942.out 5;have hfz32_6 := blk_frozen BK942.out 6;have hfz32_7 := blk_frozen BK942.out 7;have hfz32_8 := blk_frozen BK942.out 8;have hfz32_9 := blk_frozen BK942.out 9
               go_wp2_with (first | ((with_reducible refine gate_callee (f := 50) rfl ?_); refine goesL_ (some 78) rfl rfl Try.func50 (by kernel_rfl) rfl #[.agg #[.int .i64 a0, .int .i64 (wrap64 (a0 + (wrap64 (a2 * x10_13)))), .int .i64 a1, .int .i64 x943003_13, .int .i64 x13_4, .int .i64 0, .int .i64 0, .int .i64 0, .int .i64 0, .slice none 0 0]] rfl (by (try simp only [List.map_toArray, List.map_cons, List.map_nil]); first | done | rfl | (simp only [List.length_drop, List.length_take]; rfl)) ?_; (refine (sched_Dates.calls k4 a0 (wrap64 (a0 + (wrap64 (a2 * x10_13)))) a1 x943003_13 x13_4 0 0 0 0 _ _ ([] : List (S63)) t948 t951 _ ?side1 ?side2 A28.out).mono ?_); (case side1 => exact Kd.C_nil _ _); (case side2 => exact Nat.le_refl _); rintro e w33 ⟨v949, rfl, ho0, hb⟩; refine ⟨_, rfl, ?_⟩; have n0_ := Aside0.mk (Kd.R_elder' (by (with_reducible repeat (first | apply Kd.R_alloc | apply Kd.R_drewN | apply Kd.R_drew)); exact (Kd.R_mono (Kd.R_far (p := ⟨gb942, 4, none⟩) (Kd.R_types HO_11.out BK942.out (by decide)) (fun _ hk => hk.2) (.int .i64 x13_4)) (fun _ h_ => h_.1))) (Kd.R_base ho0) hb); have n1_ := Aside0.mk (Kd.R_lower (Kd.R_new' ho0 (Kd.R_lt (by (with_reducible repeat (first | apply Kd.R_alloc | apply Kd.R_drewN | apply Kd.R_drew)); exact (Kd.R_mono (Kd.R_far (p := ⟨gb942, 4, none⟩) (Kd.R_types HO_11.out BK942.out (by decide)) (fun _ hk => hk.2) (.int .i64 x13_4)) (fun _ h_ => h_.1))))) (below_size (by repeat (first | (with_reducible first | exact HB.out | apply below_alloc | apply pw_below_drewN | apply below_drew1 | refine below_set ?_ GE942.out) | exact HB.out)))); have n2_ := Aside0.mk (blk_below (g := gb942) (o := .cells #[.int .i64 a0, .int .i64 (wrap64 (a0 + (wrap64 (a2 * x10_13)))), .int .i64 a1, .int .i64 x943003_13, .int .i64 x13_4, .int .i64 0, .int .i64 0, .int .i64 0, .int .i64 0, .slice none 0 0] 66 (0, 0)) (by (with_reducible repeat (first | refine blk_drewN ?_ _ | refine blk_drew ?_ | refine blk_alloc ?_ _)); refine blk_put (cs := #[.int .i64 a0, .int .i64 (wrap64 (a0 + (wrap64 (a2 * x10_13)))), .int .i64 a1, .int .i64 x943003_13, .int .i64 x943004_4, .int .i64 0, .int .i64 0, .int .i64 0, .int .i64 0, .slice none 0 0]) ?_ 4 _ rfl; (with_reducible repeat (first | refine blk_drewN ?_ _ | refine blk_drew ?_ | refine blk_alloc ?_ _)); exact BK942.out) hb); have n3_ := Aside0.mk (below_step (by repeat (first | (with_reducible first | exact HB.out | apply below_alloc | apply pw_below_drewN | apply below_drew1 | refine below_set ?_ GE942.out) | exact HB.out)) hb); clear HO_11; clear BK942; clear HB; have HO_11 := n0_; have HO950 := n1_; have BK942 := n2_; have HB := n3_; clear n0_ n1_ n2_ n3_; (try clear hb); (try clear hb2); (try clear hk); (try clear hi); (try clear ho0); obtain ⟨Ao34, co34, eo34⟩ := Kd.R_slice HO950.out; subst eo34; obtain ⟨Ao35, co35, eo35⟩ := Kd.R_slice HO_11.out; subst eo35) | (go_at_call 52; (with_reducible refine (tenorref8_SameInts.calls k4 _ _ t948 _ _ x11_3 true _ ?side1 ?side2 ?side3 ?side4 A30.out).mono ?_); (case side1 => repeat (first | exact (Kd.R_reads' HO950.out).2.2 | (with_reducible refine Kd.C_alloc ?_ _) | (with_reducible refine Kd.C_drewN ?_ _) | (with_reducible refine Kd.C_drew ?_))); (case side2 => exact (Kd.R_reads' HO950.out).2.1); (case side3 => repeat (first | exact (Kd.R_reads' HO_11.out).2.2 | (with_reducible refine Kd.C_alloc ?_ _) | (with_reducible refine Kd.C_drewN ?_ _) | (with_reducible refine Kd.C_drew ?_))); (case side4 => exact (Kd.R_reads' HO_11.out).2.1); rintro e w' ⟨rfl, ⟨nd, rfl⟩⟩))
               go_roundg k4
               case measure => have := HJ4.out; have := HJ13.out; have := HK3.out; have := HK4.out; omega
               case rel => exact ⟨(wrap64 (x13_4 + 1)), (x13_4), (by first | rfl | (simp; done) | (simp [*]; done)), H', ⟨by have := HJ4.out; have := HJ13.out; have := HK3.out; have := HK4.out; omega⟩, ⟨by (with_reducible repeat (first | apply Kd.R_alloc | apply Kd.R_drewN | apply Kd.R_drew)); exact Kd.R_mono HO_11.out (fun _ hk => trivial)⟩, ⟨by (with_reducible repeat (first | refine blk_drewN ?_ _ | refine blk_drew ?_ | refine blk_alloc ?_ _)); exact BK942.out⟩, ⟨by repeat (first | (with_reducible first | exact HB.out | apply below_alloc | apply pw_below_drewN | apply below_drew1 | refine below_set ?_ GE942.out) | exact HB.out)⟩⟩
              ·
               replace c31 := Bool.eq_false_iff.mpr c31;subst c31
               have H1 : (some false) = some r := by rw [if_neg (show ¬ (false = true) by decide)] at H; exact H
               clear H;have H := H1;clear H1
               exact absurd (H.trans (congrArg some HT)) (by decide)
             ·
              rw [if_neg c29] at H
              have c29b0 : (t951 == 0) = false := beq_eq_false_iff_ne.mpr c29
              have c29b1 : (t951 != 0) = true := bne_iff_ne.mpr c29
              exact absurd (H.trans (congrArg some HT)) (by decide)
            ·
             rw [if_neg c27] at H
             have c27b0 : decide (x13_4 ≤ 4) = false := decide_eq_false c27
             clear c27;replace H := Option.bind_eq_some_iff.mp H
             obtain ⟨t947, A420, H⟩ := H
             replace H : (some t947) = some r := H
             have A42 := Aside0.mk A420;clear A420
             obtain rfl := Option.some.inj H
             go_wp2_with (first | ((with_reducible refine gate_callee (f := 49) rfl ?_); refine goesL_ (some 89) rfl rfl Try.func49 (by kernel_rfl) rfl #[] rfl (by (try simp only [List.map_toArray, List.map_cons, List.map_nil]); first | done | rfl | (simp only [List.length_drop, List.length_take]; rfl)) ?_; (with_reducible refine (tenorlaw8_awake.calls k4  t947 _ A42.out).mono ?_); rintro e w43 ⟨rfl, hb⟩; refine ⟨_, rfl, ?_⟩; have n0_ := Aside0.mk (Kd.R_below (by (with_reducible repeat (first | apply Kd.R_alloc | apply Kd.R_drewN | apply Kd.R_drew)); exact HO_11.out) hb); have n1_ := Aside0.mk (blk_below (g := gb942) (o := .cells #[.int .i64 a0, .int .i64 (wrap64 (a0 + (wrap64 (a2 * x10_13)))), .int .i64 a1, .int .i64 x943003_13, .int .i64 x943004_4, .int .i64 0, .int .i64 0, .int .i64 0, .int .i64 0, .slice none 0 0] 66 (0, 0)) (by (with_reducible repeat (first | refine blk_drewN ?_ _ | refine blk_drew ?_ | refine blk_alloc ?_ _)); exact BK942.out) hb); have n2_ := Aside0.mk (below_step (by repeat (first | (with_reducible first | exact HB.out | apply below_alloc | apply pw_below_drewN | apply below_drew1 | refine below_set ?_ GE942.out) | exact HB.out)) hb); clear HO_11; clear BK942; clear HB; have HO_11 := n0_; have BK942 := n1_; have HB := n2_; clear n0_ n1_ n2_; (try clear hb); (try clear hb2); (try clear hk); (try clear hi)))
             go_ret
             exact ⟨by first | rfl | (simp [errW_none, errW_some] <;> rfl) | (simp [*, errW_none, errW_some] <;> rfl), by repeat (first | (with_reducible first | exact HB.out | apply below_alloc | apply pw_below_drewN | apply below_drew1 | refine below_set ?_ GE942.out) | exact HB.out)⟩
end Go.Proofs.Ytoncignjcgjhhaa.Q
