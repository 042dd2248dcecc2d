/- Contracts of functions of the seat's program: each Go function's Lean function and its walk, written by a program of this session over the kit's print. Not trusted: Lean checks it. -/
import Derived.Test.YtoncignjcgjhhaaTGA
import Derived.Test.YtoncignjcgjhhaaTQx18
import Derived.Test.YtoncignjcgjhhaaTGK
set_option linter.unusedVariables false
set_option linter.unusedSimpArgs false
namespace Go.Proofs.Ytoncignjcgjhhaa.Q
open Go.RowKit Go.Proofs.YtoncignjcgjhhaaW.PrintWords Go.Proofs.YtoncignjcgjhhaaW.PrintLast Go.Proofs.YtoncignjcgjhhaaW.PrintMore
attribute [local go_sem] max2_int min2_int max_two min_two max_three min_three max_four min_four   -- for this text's walks alone
mutual
def tenorref8_Check.j0 : Nat → Bool → Int → Int → Int → Int → Int → Int → Int → Int → Int → List (S63) → Option (Int)
  | 0, _, _, _, _, _, _, _, _, _, _, _ => none
  | k + 1, x14, x765000, x765001, x765002, x765003, x765004, x765005, x765006, x765007, x765008, x765009 => if x14 = true then (some 51) else (if x765000 ≥ x765001 then (tenorref8_Check.j1 k true x765000 x765001 x765002 x765003 x765004 x765005 x765006 x765007 x765008 x765009) else ((tenorref8_in.f x765002 1 1200).bind fun t767 => (if t767 = true then ((tenorref8_in.f x765003 1 4).bind fun t768 => (if t768 = true then ((tenorref8_in.f x765004 1 4).bind fun t769 => (if t769 = true then ((tenorref8_in.f x765005 0 2).bind fun t770 => (tenorref8_Check.j1 k (!t770) x765000 x765001 x765002 x765003 x765004 x765005 x765006 x765007 x765008 x765009)) else (tenorref8_Check.j1 k true x765000 x765001 x765002 x765003 x765004 x765005 x765006 x765007 x765008 x765009))) else (tenorref8_Check.j1 k true x765000 x765001 x765002 x765003 x765004 x765005 x765006 x765007 x765008 x765009))) else (tenorref8_Check.j1 k true x765000 x765001 x765002 x765003 x765004 x765005 x765006 x765007 x765008 x765009))))
def tenorref8_Check.j1 : Nat → Bool → Int → Int → Int → Int → Int → Int → Int → Int → Int → List (S63) → Option (Int)
  | 0, _, _, _, _, _, _, _, _, _, _, _ => none
  | k + 1, x43, x765000, x765001, x765002, x765003, x765004, x765005, x765006, x765007, x765008, x765009 => if x43 = true then (some 80) else (if x765005 = 0 then ((tenorref8_in.f x765006 0 4).bind fun t771 => (if t771 = true then ((tenorref8_in.f x765007 0 30).bind fun t772 => (if t772 = true then ((tenorref6_Check.f k x765008 x765009).bind fun bt773 => (some bt773.1)) else (some 80))) else (some 80))) else (if x765003 < 3 then (some 80) else ((tenorref8_in.f x765006 0 4).bind fun t775 => (if t775 = true then ((tenorref8_in.f x765007 0 30).bind fun t776 => (if t776 = true then ((tenorref6_Check.f k x765008 x765009).bind fun bt777 => (some bt777.1)) else (some 80))) else (some 80)))))
end
def tenorref8_Check.f (k : Nat) (a0_0 : Int) (a0_1 : Int) (a0_2 : Int) (a0_3 : Int) (a0_4 : Int) (a0_5 : Int) (a0_6 : Int) (a0_7 : Int) (a0_8 : Int) (l0_9 : List (S63)) : Option (Int) := (tenorref8_in.f a0_0 0 109572).bind fun t765 => (if t765 = true then ((tenorref8_in.f a0_1 0 109572).bind fun t766 => (tenorref8_Check.j0 k (!t766) a0_0 a0_1 a0_2 a0_3 a0_4 a0_5 a0_6 a0_7 a0_8 l0_9)) else (tenorref8_Check.j0 k true a0_0 a0_1 a0_2 a0_3 a0_4 a0_5 a0_6 a0_7 a0_8 l0_9))
theorem tenorref8_Check.mono_l : ∀ k, (∀ y0 y1 y2 y3 y4 y5 y6 y7 y8 y9 y10, LeO (tenorref8_Check.j0 k y0 y1 y2 y3 y4 y5 y6 y7 y8 y9 y10) (tenorref8_Check.j0 (k + 1) y0 y1 y2 y3 y4 y5 y6 y7 y8 y9 y10)) ∧ (∀ y0 y1 y2 y3 y4 y5 y6 y7 y8 y9 y10, LeO (tenorref8_Check.j1 k y0 y1 y2 y3 y4 y5 y6 y7 y8 y9 y10) (tenorref8_Check.j1 (k + 1) y0 y1 y2 y3 y4 y5 y6 y7 y8 y9 y10))
 | 0 => ⟨fun _ _ _ _ _ _ _ _ _ _ _ r h => by simp [tenorref8_Check.j0] at h, fun _ _ _ _ _ _ _ _ _ _ _ r h => by simp [tenorref8_Check.j1] at h⟩
 | k + 1 => by
  obtain ⟨ih0, ih1⟩ := tenorref8_Check.mono_l k
  refine ⟨?_, ?_⟩
  ·
   intro y0 y1 y2 y3 y4 y5 y6 y7 y8 y9 y10
   unfold tenorref8_Check.j0
   repeat' first
   | (with_reducible exact ih0 _ _ _ _ _ _ _ _ _ _ _)
   | (with_reducible exact ih1 _ _ _ _ _ _ _ _ _ _ _)
   | (with_reducible exact tenorref6_Check.mono _ _ _)
   | (with_reducible exact LeO.refl _)
   | (with_reducible exact LeO.none _)
   | (with_reducible refine LeO.ite ?_ ?_)
   | (with_reducible refine LeO.bind ?_ (fun _ => ?_))
   | exact ih0 _ _ _ _ _ _ _ _ _ _ _
   | exact ih1 _ _ _ _ _ _ _ _ _ _ _
   | exact tenorref6_Check.mono _ _ _
   | exact LeO.none _
   | refine LeO.ite ?_ ?_
   | refine LeO.bind ?_ (fun _ => ?_)
  ·
   intro y0 y1 y2 y3 y4 y5 y6 y7 y8 y9 y10
   unfold tenorref8_Check.j1
   repeat' first
   | (with_reducible exact ih0 _ _ _ _ _ _ _ _ _ _ _)
   | (with_reducible exact ih1 _ _ _ _ _ _ _ _ _ _ _)
   | (with_reducible exact tenorref6_Check.mono _ _ _)
   | (with_reducible exact LeO.refl _)
   | (with_reducible exact LeO.none _)
   | (with_reducible refine LeO.ite ?_ ?_)
   | (with_reducible refine LeO.bind ?_ (fun _ => ?_))
   | exact ih0 _ _ _ _ _ _ _ _ _ _ _
   | exact ih1 _ _ _ _ _ _ _ _ _ _ _
   | exact tenorref6_Check.mono _ _ _
   | exact LeO.none _
   | refine LeO.ite ?_ ?_
   | refine LeO.bind ?_ (fun _ => ?_)
theorem tenorref8_Check.mono : ∀ a0 a1 a2 a3 a4 a5 a6 a7 a8 a9 k, LeO (tenorref8_Check.f k a0 a1 a2 a3 a4 a5 a6 a7 a8 a9) (tenorref8_Check.f (k + 1) a0 a1 a2 a3 a4 a5 a6 a7 a8 a9) := by
 intro a0 a1 a2 a3 a4 a5 a6 a7 a8 a9 k
 obtain ⟨ih0, ih1⟩ := tenorref8_Check.mono_l k
 unfold tenorref8_Check.f
 repeat' first
   | (with_reducible exact ih0 _ _ _ _ _ _ _ _ _ _ _)
   | (with_reducible exact ih1 _ _ _ _ _ _ _ _ _ _ _)
   | (with_reducible exact tenorref6_Check.mono _ _ _)
   | (with_reducible exact LeO.refl _)
   | (with_reducible exact LeO.none _)
   | (with_reducible refine LeO.ite ?_ ?_)
   | (with_reducible refine LeO.bind ?_ (fun _ => ?_))
   | exact ih0 _ _ _ _ _ _ _ _ _ _ _
   | exact ih1 _ _ _ _ _ _ _ _ _ _ _
   | exact tenorref6_Check.mono _ _ _
   | exact LeO.none _
   | refine LeO.ite ?_ ?_
   | refine LeO.bind ?_ (fun _ => ?_)
set_option maxHeartbeats 8000000 in
set_option maxRecDepth 100000 in
theorem tenorref8_Check.calls (k : Nat) (a0_0 : Int) (a0_1 : Int) (a0_2 : Int) (a0_3 : Int) (a0_4 : Int) (a0_5 : Int) (a0_6 : Int) (a0_7 : Int) (a0_8 : Int) (A0_9 : Option Addr) (c0_9 : Nat) (l0_9 : List (S63)) (r : Int) (w : World) (hr0_9 : Kd.C k63 w A0_9 l0_9.length l0_9) (hc0_9 : l0_9.length ≤ c0_9) (h : tenorref8_Check.f k a0_0 a0_1 a0_2 a0_3 a0_4 a0_5 a0_6 a0_7 a0_8 l0_9 = some r) :
  Calls Try.prog 58 #[.agg #[.int .i64 a0_0, .int .i64 a0_1, .int .i64 a0_2, .int .i64 a0_3, .int .i64 a0_4, .int .i64 a0_5, .int .i64 a0_6, .int .i64 a0_7, .int .i64 a0_8, .slice A0_9 l0_9.length c0_9]] w fun e w' => e = .returned (.int .i64 r) ∧ Below w.heap.size w w' := by
 have hu66 := Try.underlying66;have hu24 := Try.underlying24;have HR0_9 := Aside0.mk hr0_9;have HC0_9 := Aside0.mk hc0_9;clear hr0_9 hc0_9
 have HB := Aside0.mk (Below.refl w.heap.size w)
 have H : ((tenorref8_in.f a0_0 0 109572).bind fun t765 => (if t765 = true then ((tenorref8_in.f a0_1 0 109572).bind fun t766 => (tenorref8_Check.j0 k (!t766) a0_0 a0_1 a0_2 a0_3 a0_4 a0_5 a0_6 a0_7 a0_8 l0_9)) else (tenorref8_Check.j0 k true a0_0 a0_1 a0_2 a0_3 a0_4 a0_5 a0_6 a0_7 a0_8 l0_9))) = some r := h
 clear h;have HC2 := Aside0.mk H;clear H
 go_enter Try.func58, Try.ntmps58
 go_upto_region 1 with (first | ((with_reducible refine gate_dst (N := 1) rfl ?_); refine box_event ?hg (N := 1) ?hd (cs := #[.int .i64 a0_0, .int .i64 a0_1, .int .i64 a0_2, .int .i64 a0_3, .int .i64 a0_4, .int .i64 a0_5, .int .i64 a0_6, .int .i64 a0_7, .int .i64 a0_8, .slice A0_9 l0_9.length c0_9]) (t := 66) ?hr ?_; (case hd => rfl); (case hg => rfl); (case hr => first | (go_simp; done) | (go_simp; rfl)); intro gb764 hg w3 hbox hb; have n0_ := Aside0.mk (below_step (by repeat (first | (with_reducible first | exact HB.out | apply below_alloc | apply pw_below_drewN | apply below_drew1) | exact HB.out)) hb); have n1_ := Aside0.mk (hbox); have n2_ := Aside0.mk ((by rw [hg]; exact (below_size (by repeat (first | (with_reducible first | exact HB.out | apply below_alloc | apply pw_below_drewN | apply below_drew1) | exact HB.out))) : w.heap.size ≤ gb764)); have n3_ := Aside0.mk ((by rw [hg]; exact (below_size (by repeat (first | (with_reducible first | exact HB.out | apply below_alloc | apply pw_below_drewN | apply below_drew1) | exact HB.out))) : w.heap.size ≤ gb764)); clear HB; have HB := n0_; have BK764 := n1_; have GW764 := n2_; have GE764 := n3_; clear n0_ n1_ n2_ n3_; clear hb hbox hg))
 (try simp only [Act.put, List.setIfInBounds_toArray, List.set_cons_zero, List.set_cons_succ])
 go_cut [14] (fun v14 wc => ∃ (kq : Nat) (x14_1 : Bool), v14 = .bool x14_1 ∧ Aside0 (tenorref8_Check.j0 kq x14_1 a0_0 a0_1 a0_2 a0_3 a0_4 a0_5 a0_6 a0_7 a0_8 l0_9 = some r) ∧ Aside0 (kq ≤ k) ∧ Aside0 (wc.heap[gb764]? = some (.cells #[.int .i64 a0_0, .int .i64 a0_1, .int .i64 a0_2, .int .i64 a0_3, .int .i64 a0_4, .int .i64 a0_5, .int .i64 a0_6, .int .i64 a0_7, .int .i64 a0_8, (.slice A0_9 l0_9.length c0_9)] 66 (0, 0))) ∧ Aside0 (Below w.heap.size w wc))
 case first =>
  have H := HC2.out;clear HC2;replace H := Option.bind_eq_some_iff.mp H
  obtain ⟨t765, A40, H⟩ := H
  replace H : (if t765 = true then ((tenorref8_in.f a0_1 0 109572).bind fun t766 => (tenorref8_Check.j0 k (!t766) a0_0 a0_1 a0_2 a0_3 a0_4 a0_5 a0_6 a0_7 a0_8 l0_9)) else (tenorref8_Check.j0 k true a0_0 a0_1 a0_2 a0_3 a0_4 a0_5 a0_6 a0_7 a0_8 l0_9)) = some r := H
  have A4 := Aside0.mk A40;clear A40
  by_cases c5 : t765 = true
  ·
   subst c5
   have H1 : ((tenorref8_in.f a0_1 0 109572).bind fun t766 => (tenorref8_Check.j0 k (!t766) a0_0 a0_1 a0_2 a0_3 a0_4 a0_5 a0_6 a0_7 a0_8 l0_9)) = some r := by rw [if_pos rfl] at H; exact H
   clear H;have H := H1;clear H1;replace H := Option.bind_eq_some_iff.mp H
   obtain ⟨t766, A60, H⟩ := H
   replace H : (tenorref8_Check.j0 k (!t766) a0_0 a0_1 a0_2 a0_3 a0_4 a0_5 a0_6 a0_7 a0_8 l0_9) = some r := H
   have A6 := Aside0.mk A60;clear A60;have H' := Aside0.mk H;clear H
   have hcz7_0 : w3.cell? ⟨gb764, 0, none⟩ = some (.int .i64 a0_0) := (blk_cell BK764.out 0).trans rfl
   have hcz7_1 : w3.cell? ⟨gb764, 1, none⟩ = some (.int .i64 a0_1) := (blk_cell BK764.out 1).trans rfl
   have hcz7_2 : w3.cell? ⟨gb764, 2, none⟩ = some (.int .i64 a0_2) := (blk_cell BK764.out 2).trans rfl
   have hcz7_3 : w3.cell? ⟨gb764, 3, none⟩ = some (.int .i64 a0_3) := (blk_cell BK764.out 3).trans rfl
   have hcz7_4 : w3.cell? ⟨gb764, 4, none⟩ = some (.int .i64 a0_4) := (blk_cell BK764.out 4).trans rfl
   have hcz7_5 : w3.cell? ⟨gb764, 5, none⟩ = some (.int .i64 a0_5) := (blk_cell BK764.out 5).trans rfl
   have hcz7_6 : w3.cell? ⟨gb764, 6, none⟩ = some (.int .i64 a0_6) := (blk_cell BK764.out 6).trans rfl
   have hcz7_7 : w3.cell? ⟨gb764, 7, none⟩ = some (.int .i64 a0_7) := (blk_cell BK764.out 7).trans rfl
   have hcz7_8 : w3.cell? ⟨gb764, 8, none⟩ = some (.int .i64 a0_8) := (blk_cell BK764.out 8).trans rfl
   have hcz7_9 : w3.cell? ⟨gb764, 9, none⟩ = some (.slice A0_9 l0_9.length c0_9) := (blk_cell BK764.out 9).trans rfl
   have hfz7_0 := blk_frozen BK764.out 0;have hfz7_1 := blk_frozen BK764.out 1;have hfz7_2 := blk_frozen BK764.out 2;have hfz7_3 := blk_frozen BK764.out 3;have hfz7_4 := blk_frozen BK764.out 4;have hfz7_5 := blk_frozen BK764.out 5;have hfz7_6 := blk_frozen BK764.out 6;have hfz7_7 := blk_frozen BK764.out 7;have hfz7_8 := blk_frozen BK764.out 8;have hfz7_9 := blk_frozen BK764.out 9
   go_wp2_with (first | ((with_reducible refine gate_callee (f := 92) rfl ?_); refine goesL_ (some 7) rfl rfl Try.func92 (by kernel_rfl) rfl #[.int .i64 a0_0, .int .i64 0, .int .i64 109572] rfl (by (try simp only [List.map_toArray, List.map_cons, List.map_nil]); first | done | rfl | (simp only [List.length_drop, List.length_take]; rfl)) ?_; (with_reducible refine (tenorref8_in.calls a0_0 0 109572 true _ A4.out).mono ?_); rintro e w' ⟨rfl, ⟨nd, rfl⟩⟩; refine ⟨_, rfl, ?_⟩) | (go_at_call 92; (with_reducible refine (tenorref8_in.calls a0_1 0 109572 t766 _ A6.out).mono ?_); rintro e w' ⟨rfl, ⟨nd, rfl⟩⟩))
   go_meet
   case rel => exact ⟨_, (!t766), (by first | rfl | (simp; done) | (simp [*]; done)), H', ⟨by first | omega | exact Nat.le_refl _⟩, ⟨by (with_reducible repeat (first | refine blk_drewN ?_ _ | refine blk_drew ?_ | refine blk_alloc ?_ _)); exact BK764.out⟩, ⟨by repeat (first | (with_reducible first | exact HB.out | apply below_alloc | apply pw_below_drewN | apply below_drew1 | refine below_set ?_ GE764.out) | exact HB.out)⟩⟩
  ·
   replace c5 := Bool.eq_false_iff.mpr c5;subst c5
   have H1 : (tenorref8_Check.j0 k true a0_0 a0_1 a0_2 a0_3 a0_4 a0_5 a0_6 a0_7 a0_8 l0_9) = some r := by rw [if_neg (show ¬ (false = true) by decide)] at H; exact H
   clear H;have H := H1;clear H1;have H' := Aside0.mk H;clear H
   have hcz8_0 : w3.cell? ⟨gb764, 0, none⟩ = some (.int .i64 a0_0) := (blk_cell BK764.out 0).trans rfl
   have hcz8_1 : w3.cell? ⟨gb764, 1, none⟩ = some (.int .i64 a0_1) := (blk_cell BK764.out 1).trans rfl
   have hcz8_2 : w3.cell? ⟨gb764, 2, none⟩ = some (.int .i64 a0_2) := (blk_cell BK764.out 2).trans rfl
   have hcz8_3 : w3.cell? ⟨gb764, 3, none⟩ = some (.int .i64 a0_3) := (blk_cell BK764.out 3).trans rfl
   have hcz8_4 : w3.cell? ⟨gb764, 4, none⟩ = some (.int .i64 a0_4) := (blk_cell BK764.out 4).trans rfl
   have hcz8_5 : w3.cell? ⟨gb764, 5, none⟩ = some (.int .i64 a0_5) := (blk_cell BK764.out 5).trans rfl
   have hcz8_6 : w3.cell? ⟨gb764, 6, none⟩ = some (.int .i64 a0_6) := (blk_cell BK764.out 6).trans rfl
   have hcz8_7 : w3.cell? ⟨gb764, 7, none⟩ = some (.int .i64 a0_7) := (blk_cell BK764.out 7).trans rfl
   have hcz8_8 : w3.cell? ⟨gb764, 8, none⟩ = some (.int .i64 a0_8) := (blk_cell BK764.out 8).trans rfl
   have hcz8_9 : w3.cell? ⟨gb764, 9, none⟩ = some (.slice A0_9 l0_9.length c0_9) := (blk_cell BK764.out 9).trans rfl
   have hfz8_0 := blk_frozen BK764.out 0;have hfz8_1 := blk_frozen BK764.out 1;have hfz8_2 := blk_frozen BK764.out 2;have hfz8_3 := blk_frozen BK764.out 3;have hfz8_4 := blk_frozen BK764.out 4;have hfz8_5 := blk_frozen BK764.out 5;have hfz8_6 := blk_frozen BK764.out 6;have hfz8_7 := blk_frozen BK764.out 7;have hfz8_8 := blk_frozen BK764.out 8;have hfz8_9 := blk_frozen BK764.out 9
   go_wp2_with (first | ((with_reducible refine gate_callee (f := 92) rfl ?_); refine goesL_ (some 7) rfl rfl Try.func92 (by kernel_rfl) rfl #[.int .i64 a0_0, .int .i64 0, .int .i64 109572] rfl (by (try simp only [List.map_toArray, List.map_cons, List.map_nil]); first | done | rfl | (simp only [List.length_drop, List.length_take]; rfl)) ?_; (with_reducible refine (tenorref8_in.calls a0_0 0 109572 false _ A4.out).mono ?_); rintro e w' ⟨rfl, ⟨nd, rfl⟩⟩; refine ⟨_, rfl, ?_⟩))
   go_meet
   case rel => exact ⟨_, (true), (by first | rfl | (simp; done) | (simp [*]; done)), H', ⟨by first | omega | exact Nat.le_refl _⟩, ⟨by (with_reducible repeat (first | refine blk_drewN ?_ _ | refine blk_drew ?_ | refine blk_alloc ?_ _)); exact BK764.out⟩, ⟨by repeat (first | (with_reducible first | exact HB.out | apply below_alloc | apply pw_below_drewN | apply below_drew1 | refine below_set ?_ GE764.out) | exact HB.out)⟩⟩
 case rest =>
  clear HC2
  obtain ⟨kq, x14_1, rfl, HA, HJ1, BK764, HB⟩ := hcut
  cases kq with
  | zero => exact absurd HA.out (by simp [tenorref8_Check.j0])
  | succ kj1 =>
   have H := HA.out;clear HA
   simp only [tenorref8_Check.j0] at H
   by_cases c9 : x14_1 = true
   ·
    subst c9
    have H1 : (some 51) = some r := by rw [if_pos rfl] at H; exact H
    clear H;have H := H1;clear H1
    obtain rfl := Option.some.inj H
    go_wp2
    go_ret
    exact ⟨by first | rfl | (simp [errW_none, errW_some] <;> rfl) | (simp [*, errW_none, errW_some] <;> rfl), by repeat (first | (with_reducible first | exact HB.out | apply below_alloc | apply pw_below_drewN | apply below_drew1 | refine below_set ?_ GE764.out) | exact HB.out)⟩
   ·
    replace c9 := Bool.eq_false_iff.mpr c9;subst c9
    have H1 : (if a0_0 ≥ a0_1 then (tenorref8_Check.j1 kj1 true a0_0 a0_1 a0_2 a0_3 a0_4 a0_5 a0_6 a0_7 a0_8 l0_9) else ((tenorref8_in.f a0_2 1 1200).bind fun t767 => (if t767 = true then ((tenorref8_in.f a0_3 1 4).bind fun t768 => (if t768 = true then ((tenorref8_in.f a0_4 1 4).bind fun t769 => (if t769 = true then ((tenorref8_in.f a0_5 0 2).bind fun t770 => (tenorref8_Check.j1 kj1 (!t770) a0_0 a0_1 a0_2 a0_3 a0_4 a0_5 a0_6 a0_7 a0_8 l0_9)) else (tenorref8_Check.j1 kj1 true a0_0 a0_1 a0_2 a0_3 a0_4 a0_5 a0_6 a0_7 a0_8 l0_9))) else (tenorref8_Check.j1 kj1 true a0_0 a0_1 a0_2 a0_3 a0_4 a0_5 a0_6 a0_7 a0_8 l0_9))) else (tenorref8_Check.j1 kj1 true a0_0 a0_1 a0_2 a0_3 a0_4 a0_5 a0_6 a0_7 a0_8 l0_9)))) = some r := by rw [if_neg (show ¬ (false = true) by decide)] at H; exact H
    clear H;have H := H1;clear H1;have HC10 := Aside0.mk H;clear H
    go_upto_region 3 with (fail)
    go_cut [43] (fun v43 wc => ∃ (kq : Nat) (x43_9 : Bool), v43 = .bool x43_9 ∧ Aside0 (tenorref8_Check.j1 kq x43_9 a0_0 a0_1 a0_2 a0_3 a0_4 a0_5 a0_6 a0_7 a0_8 l0_9 = some r) ∧ Aside0 (kq ≤ kj1) ∧ Aside0 (wc.heap[gb764]? = some (.cells #[.int .i64 a0_0, .int .i64 a0_1, .int .i64 a0_2, .int .i64 a0_3, .int .i64 a0_4, .int .i64 a0_5, .int .i64 a0_6, .int .i64 a0_7, .int .i64 a0_8, (.slice A0_9 l0_9.length c0_9)] 66 (0, 0))) ∧ Aside0 (Below w.heap.size w wc))
    case first =>
     have H := HC10.out;clear HC10
     by_cases c11 : a0_0 ≥ a0_1
     ·
      rw [if_pos c11] at H
      have c11b0 : decide (a0_1 ≤ a0_0) = true := decide_eq_true c11
      clear c11
      (first | rw [c11b0] | (simp only [i64_w, i32_w]; rw [c11b0]) | skip)
      have H' := Aside0.mk H;clear H
      have hcz12_0 : wc.cell? ⟨gb764, 0, none⟩ = some (.int .i64 a0_0) := (blk_cell BK764.out 0).trans rfl
      have hcz12_1 : wc.cell? ⟨gb764, 1, none⟩ = some (.int .i64 a0_1) := (blk_cell BK764.out 1).trans rfl
      have hcz12_2 : wc.cell? ⟨gb764, 2, none⟩ = some (.int .i64 a0_2) := (blk_cell BK764.out 2).trans rfl
      have hcz12_3 : wc.cell? ⟨gb764, 3, none⟩ = some (.int .i64 a0_3) := (blk_cell BK764.out 3).trans rfl
      have hcz12_4 : wc.cell? ⟨gb764, 4, none⟩ = some (.int .i64 a0_4) := (blk_cell BK764.out 4).trans rfl
      have hcz12_5 : wc.cell? ⟨gb764, 5, none⟩ = some (.int .i64 a0_5) := (blk_cell BK764.out 5).trans rfl
      have hcz12_6 : wc.cell? ⟨gb764, 6, none⟩ = some (.int .i64 a0_6) := (blk_cell BK764.out 6).trans rfl
      have hcz12_7 : wc.cell? ⟨gb764, 7, none⟩ = some (.int .i64 a0_7) := (blk_cell BK764.out 7).trans rfl
      have hcz12_8 : wc.cell? ⟨gb764, 8, none⟩ = some (.int .i64 a0_8) := (blk_cell BK764.out 8).trans rfl
      have hcz12_9 : wc.cell? ⟨gb764, 9, none⟩ = some (.slice A0_9 l0_9.length c0_9) := (blk_cell BK764.out 9).trans rfl
      have hfz12_0 := blk_frozen BK764.out 0;have hfz12_1 := blk_frozen BK764.out 1;have hfz12_2 := blk_frozen BK764.out 2;have hfz12_3 := blk_frozen BK764.out 3;have hfz12_4 := blk_frozen BK764.out 4;have hfz12_5 := blk_frozen BK764.out 5;have hfz12_6 := blk_frozen BK764.out 6;have hfz12_7 := blk_frozen BK764.out 7;have hfz12_8 := blk_frozen BK764.out 8;have hfz12_9 := blk_frozen BK764.out 9
      go_wp2
      go_meet
      case rel => exact ⟨_, (true), (by first | rfl | (simp; done) | (simp [*]; done)), H', ⟨by have := HJ1.out; first | omega | exact Nat.le_refl _⟩, ⟨by (with_reducible repeat (first | refine blk_drewN ?_ _ | refine blk_drew ?_ | refine blk_alloc ?_ _)); exact BK764.out⟩, ⟨by repeat (first | (with_reducible first | exact HB.out | apply below_alloc | apply pw_below_drewN | apply below_drew1 | refine below_set ?_ GE764.out) | exact HB.out)⟩⟩
     ·
      rw [if_neg c11] at H
      have c11b0 : decide (a0_1 ≤ a0_0) = false := decide_eq_false c11
      clear c11
      (first | rw [c11b0] | (simp only [i64_w, i32_w]; rw [c11b0]) | skip)
      replace H := Option.bind_eq_some_iff.mp H
      obtain ⟨t767, A130, H⟩ := H
      replace H : (if t767 = true then ((tenorref8_in.f a0_3 1 4).bind fun t768 => (if t768 = true then ((tenorref8_in.f a0_4 1 4).bind fun t769 => (if t769 = true then ((tenorref8_in.f a0_5 0 2).bind fun t770 => (tenorref8_Check.j1 kj1 (!t770) a0_0 a0_1 a0_2 a0_3 a0_4 a0_5 a0_6 a0_7 a0_8 l0_9)) else (tenorref8_Check.j1 kj1 true a0_0 a0_1 a0_2 a0_3 a0_4 a0_5 a0_6 a0_7 a0_8 l0_9))) else (tenorref8_Check.j1 kj1 true a0_0 a0_1 a0_2 a0_3 a0_4 a0_5 a0_6 a0_7 a0_8 l0_9))) else (tenorref8_Check.j1 kj1 true a0_0 a0_1 a0_2 a0_3 a0_4 a0_5 a0_6 a0_7 a0_8 l0_9)) = some r := H
      have A13 := Aside0.mk A130;clear A130
      by_cases c14 : t767 = true
      ·
       subst c14
       have H1 : ((tenorref8_in.f a0_3 1 4).bind fun t768 => (if t768 = true then ((tenorref8_in.f a0_4 1 4).bind fun t769 => (if t769 = true then ((tenorref8_in.f a0_5 0 2).bind fun t770 => (tenorref8_Check.j1 kj1 (!t770) a0_0 a0_1 a0_2 a0_3 a0_4 a0_5 a0_6 a0_7 a0_8 l0_9)) else (tenorref8_Check.j1 kj1 true a0_0 a0_1 a0_2 a0_3 a0_4 a0_5 a0_6 a0_7 a0_8 l0_9))) else (tenorref8_Check.j1 kj1 true a0_0 a0_1 a0_2 a0_3 a0_4 a0_5 a0_6 a0_7 a0_8 l0_9))) = some r := by rw [if_pos rfl] at H; exact H
       clear H;have H := H1;clear H1;replace H := Option.bind_eq_some_iff.mp H
       obtain ⟨t768, A150, H⟩ := H
       replace H : (if t768 = true then ((tenorref8_in.f a0_4 1 4).bind fun t769 => (if t769 = true then ((tenorref8_in.f a0_5 0 2).bind fun t770 => (tenorref8_Check.j1 kj1 (!t770) a0_0 a0_1 a0_2 a0_3 a0_4 a0_5 a0_6 a0_7 a0_8 l0_9)) else (tenorref8_Check.j1 kj1 true a0_0 a0_1 a0_2 a0_3 a0_4 a0_5 a0_6 a0_7 a0_8 l0_9))) else (tenorref8_Check.j1 kj1 true a0_0 a0_1 a0_2 a0_3 a0_4 a0_5 a0_6 a0_7 a0_8 l0_9)) = some r := H
       have A15 := Aside0.mk A150;clear A150
       by_cases c16 : t768 = true
       ·
        subst c16
        have H1 : ((tenorref8_in.f a0_4 1 4).bind fun t769 => (if t769 = true then ((tenorref8_in.f a0_5 0 2).bind fun t770 => (tenorref8_Check.j1 kj1 (!t770) a0_0 a0_1 a0_2 a0_3 a0_4 a0_5 a0_6 a0_7 a0_8 l0_9)) else (tenorref8_Check.j1 kj1 true a0_0 a0_1 a0_2 a0_3 a0_4 a0_5 a0_6 a0_7 a0_8 l0_9))) = some r := by rw [if_pos rfl] at H; exact H
        clear H;have H := H1;clear H1;replace H := Option.bind_eq_some_iff.mp H
        obtain ⟨t769, A170, H⟩ := H
        replace H : (if t769 = true then ((tenorref8_in.f a0_5 0 2).bind fun t770 => (tenorref8_Check.j1 kj1 (!t770) a0_0 a0_1 a0_2 a0_3 a0_4 a0_5 a0_6 a0_7 a0_8 l0_9)) else (tenorref8_Check.j1 kj1 true a0_0 a0_1 a0_2 a0_3 a0_4 a0_5 a0_6 a0_7 a0_8 l0_9)) = some r := H
        have A17 := Aside0.mk A170;clear A170
        by_cases c18 : t769 = true
        ·
         subst c18
         have H1 : ((tenorref8_in.f a0_5 0 2).bind fun t770 => (tenorref8_Check.j1 kj1 (!t770) a0_0 a0_1 a0_2 a0_3 a0_4 a0_5 a0_6 a0_7 a0_8 l0_9)) = some r := by rw [if_pos rfl] at H; exact H
         clear H;have H := H1;clear H1;replace H := Option.bind_eq_some_iff.mp H
         obtain ⟨t770, A190, H⟩ := H
         replace H : (tenorref8_Check.j1 kj1 (!t770) a0_0 a0_1 a0_2 a0_3 a0_4 a0_5 a0_6 a0_7 a0_8 l0_9) = some r := H
         have A19 := Aside0.mk A190;clear A190;have H' := Aside0.mk H;clear H
         have hcz20_0 : wc.cell? ⟨gb764, 0, none⟩ = some (.int .i64 a0_0) := (blk_cell BK764.out 0).trans rfl
         have hcz20_1 : wc.cell? ⟨gb764, 1, none⟩ = some (.int .i64 a0_1) := (blk_cell BK764.out 1).trans rfl
         have hcz20_2 : wc.cell? ⟨gb764, 2, none⟩ = some (.int .i64 a0_2) := (blk_cell BK764.out 2).trans rfl
         have hcz20_3 : wc.cell? ⟨gb764, 3, none⟩ = some (.int .i64 a0_3) := (blk_cell BK764.out 3).trans rfl
         have hcz20_4 : wc.cell? ⟨gb764, 4, none⟩ = some (.int .i64 a0_4) := (blk_cell BK764.out 4).trans rfl
         have hcz20_5 : wc.cell? ⟨gb764, 5, none⟩ = some (.int .i64 a0_5) := (blk_cell BK764.out 5).trans rfl
         have hcz20_6 : wc.cell? ⟨gb764, 6, none⟩ = some (.int .i64 a0_6) := (blk_cell BK764.out 6).trans rfl
         have hcz20_7 : wc.cell? ⟨gb764, 7, none⟩ = some (.int .i64 a0_7) := (blk_cell BK764.out 7).trans rfl
         have hcz20_8 : wc.cell? ⟨gb764, 8, none⟩ = some (.int .i64 a0_8) := (blk_cell BK764.out 8).trans rfl
         have hcz20_9 : wc.cell? ⟨gb764, 9, none⟩ = some (.slice A0_9 l0_9.length c0_9) := (blk_cell BK764.out 9).trans rfl
         have hfz20_0 := blk_frozen BK764.out 0;have hfz20_1 := blk_frozen BK764.out 1;have hfz20_2 := blk_frozen BK764.out 2;have hfz20_3 := blk_frozen BK764.out 3;have hfz20_4 := blk_frozen BK764.out 4;have hfz20_5 := blk_frozen BK764.out 5;have hfz20_6 := blk_frozen BK764.out 6;have hfz20_7 := blk_frozen BK764.out 7;have hfz20_8 := blk_frozen BK764.out 8;have hfz20_9 := blk_frozen BK764.out 9
         go_wp2_with (first | (go_at_call 92; (with_reducible refine (tenorref8_in.calls a0_2 1 1200 true _ A13.out).mono ?_); rintro e w' ⟨rfl, ⟨nd, rfl⟩⟩) | (go_at_call 92; (with_reducible refine (tenorref8_in.calls a0_3 1 4 true _ A15.out).mono ?_); rintro e w' ⟨rfl, ⟨nd, rfl⟩⟩) | (go_at_call 92; (with_reducible refine (tenorref8_in.calls a0_4 1 4 true _ A17.out).mono ?_); rintro e w' ⟨rfl, ⟨nd, rfl⟩⟩) | (go_at_call 92; (with_reducible refine (tenorref8_in.calls a0_5 0 2 t770 _ A19.out).mono ?_); rintro e w' ⟨rfl, ⟨nd, rfl⟩⟩))
         go_meet
         case rel => exact ⟨_, (!t770), (by first | rfl | (simp; done) | (simp [*]; done)), H', ⟨by have := HJ1.out; first | omega | exact Nat.le_refl _⟩, ⟨by (with_reducible repeat (first | refine blk_drewN ?_ _ | refine blk_drew ?_ | refine blk_alloc ?_ _)); exact BK764.out⟩, ⟨by repeat (first | (with_reducible first | exact HB.out | apply below_alloc | apply pw_below_drewN | apply below_drew1 | refine below_set ?_ GE764.out) | exact HB.out)⟩⟩
        ·
         replace c18 := Bool.eq_false_iff.mpr c18;subst c18
         have H1 : (tenorref8_Check.j1 kj1 true a0_0 a0_1 a0_2 a0_3 a0_4 a0_5 a0_6 a0_7 a0_8 l0_9) = some r := by rw [if_neg (show ¬ (false = true) by decide)] at H; exact H
         clear H;have H := H1;clear H1;have H' := Aside0.mk H;clear H
         have hcz21_0 : wc.cell? ⟨gb764, 0, none⟩ = some (.int .i64 a0_0) := (blk_cell BK764.out 0).trans rfl
         have hcz21_1 : wc.cell? ⟨gb764, 1, none⟩ = some (.int .i64 a0_1) := (blk_cell BK764.out 1).trans rfl
         have hcz21_2 : wc.cell? ⟨gb764, 2, none⟩ = some (.int .i64 a0_2) := (blk_cell BK764.out 2).trans rfl
         have hcz21_3 : wc.cell? ⟨gb764, 3, none⟩ = some (.int .i64 a0_3) := (blk_cell BK764.out 3).trans rfl
         have hcz21_4 : wc.cell? ⟨gb764, 4, none⟩ = some (.int .i64 a0_4) := (blk_cell BK764.out 4).trans rfl
         have hcz21_5 : wc.cell? ⟨gb764, 5, none⟩ = some (.int .i64 a0_5) := (blk_cell BK764.out 5).trans rfl
         have hcz21_6 : wc.cell? ⟨gb764, 6, none⟩ = some (.int .i64 a0_6) := (blk_cell BK764.out 6).trans rfl
         have hcz21_7 : wc.cell? ⟨gb764, 7, none⟩ = some (.int .i64 a0_7) := (blk_cell BK764.out 7).trans rfl
         have hcz21_8 : wc.cell? ⟨gb764, 8, none⟩ = some (.int .i64 a0_8) := (blk_cell BK764.out 8).trans rfl
         have hcz21_9 : wc.cell? ⟨gb764, 9, none⟩ = some (.slice A0_9 l0_9.length c0_9) := (blk_cell BK764.out 9).trans rfl
         have hfz21_0 := blk_frozen BK764.out 0;have hfz21_1 := blk_frozen BK764.out 1;have hfz21_2 := blk_frozen BK764.out 2;have hfz21_3 := blk_frozen BK764.out 3;have hfz21_4 := blk_frozen BK764.out 4;have hfz21_5 := blk_frozen BK764.out 5;have hfz21_6 := blk_frozen BK764.out 6;have hfz21_7 := blk_frozen BK764.out 7;have hfz21_8 := blk_frozen BK764.out 8;have hfz21_9 := blk_frozen BK764.out 9
         go_wp2_with (first | (go_at_call 92; (with_reducible refine (tenorref8_in.calls a0_2 1 1200 true _ A13.out).mono ?_); rintro e w' ⟨rfl, ⟨nd, rfl⟩⟩) | (go_at_call 92; (with_reducible refine (tenorref8_in.calls a0_3 1 4 true _ A15.out).mono ?_); rintro e w' ⟨rfl, ⟨nd, rfl⟩⟩) | (go_at_call 92; (with_reducible refine (tenorref8_in.calls a0_4 1 4 false _ A17.out).mono ?_); rintro e w' ⟨rfl, ⟨nd, rfl⟩⟩))
         go_meet
         case rel => exact ⟨_, (true), (by first | rfl | (simp; done) | (simp [*]; done)), H', ⟨by have := HJ1.out; first | omega | exact Nat.le_refl _⟩, ⟨by (with_reducible repeat (first | refine blk_drewN ?_ _ | refine blk_drew ?_ | refine blk_alloc ?_ _)); exact BK764.out⟩, ⟨by repeat (first | (with_reducible first | exact HB.out | apply below_alloc | apply pw_below_drewN | apply below_drew1 | refine below_set ?_ GE764.out) | exact HB.out)⟩⟩
       ·
        replace c16 := Bool.eq_false_iff.mpr c16;subst c16
        have H1 : (tenorref8_Check.j1 kj1 true a0_0 a0_1 a0_2 a0_3 a0_4 a0_5 a0_6 a0_7 a0_8 l0_9) = some r := by rw [if_neg (show ¬ (false = true) by decide)] at H; exact H
        clear H;have H := H1;clear H1;have H' := Aside0.mk H;clear H
        have hcz22_0 : wc.cell? ⟨gb764, 0, none⟩ = some (.int .i64 a0_0) := (blk_cell BK764.out 0).trans rfl
        have hcz22_1 : wc.cell? ⟨gb764, 1, none⟩ = some (.int .i64 a0_1) := (blk_cell BK764.out 1).trans rfl
        have hcz22_2 : wc.cell? ⟨gb764, 2, none⟩ = some (.int .i64 a0_2) := (blk_cell BK764.out 2).trans rfl
        have hcz22_3 : wc.cell? ⟨gb764, 3, none⟩ = some (.int .i64 a0_3) := (blk_cell BK764.out 3).trans rfl
        have hcz22_4 : wc.cell? ⟨gb764, 4, none⟩ = some (.int .i64 a0_4) := (blk_cell BK764.out 4).trans rfl
        have hcz22_5 : wc.cell? ⟨gb764, 5, none⟩ = some (.int .i64 a0_5) := (blk_cell BK764.out 5).trans rfl
        have hcz22_6 : wc.cell? ⟨gb764, 6, none⟩ = some (.int .i64 a0_6) := (blk_cell BK764.out 6).trans rfl
        have hcz22_7 : wc.cell? ⟨gb764, 7, none⟩ = some (.int .i64 a0_7) := (blk_cell BK764.out 7).trans rfl
        have hcz22_8 : wc.cell? ⟨gb764, 8, none⟩ = some (.int .i64 a0_8) := (blk_cell BK764.out 8).trans rfl
        have hcz22_9 : wc.cell? ⟨gb764, 9, none⟩ = some (.slice A0_9 l0_9.length c0_9) := (blk_cell BK764.out 9).trans rfl
        have hfz22_0 := blk_frozen BK764.out 0;have hfz22_1 := blk_frozen BK764.out 1;have hfz22_2 := blk_frozen BK764.out 2;have hfz22_3 := blk_frozen BK764.out 3;have hfz22_4 := blk_frozen BK764.out 4;have hfz22_5 := blk_frozen BK764.out 5;have hfz22_6 := blk_frozen BK764.out 6;have hfz22_7 := blk_frozen BK764.out 7;have hfz22_8 := blk_frozen BK764.out 8;have hfz22_9 := blk_frozen BK764.out 9
        go_wp2_with (first | (go_at_call 92; (with_reducible refine (tenorref8_in.calls a0_2 1 1200 true _ A13.out).mono ?_); rintro e w' ⟨rfl, ⟨nd, rfl⟩⟩) | (go_at_call 92; (with_reducible refine (tenorref8_in.calls a0_3 1 4 false _ A15.out).mono ?_); rintro e w' ⟨rfl, ⟨nd, rfl⟩⟩))
        go_meet
        case rel => exact ⟨_, (true), (by first | rfl | (simp; done) | (simp [*]; done)), H', ⟨by have := HJ1.out; first | omega | exact Nat.le_refl _⟩, ⟨by (with_reducible repeat (first | refine blk_drewN ?_ _ | refine blk_drew ?_ | refine blk_alloc ?_ _)); exact BK764.out⟩, ⟨by repeat (first | (with_reducible first | exact HB.out | apply below_alloc | apply pw_below_drewN | apply below_drew1 | refine below_set ?_ GE764.out) | exact HB.out)⟩⟩
      ·
       replace c14 := Bool.eq_false_iff.mpr c14;subst c14
       have H1 : (tenorref8_Check.j1 kj1 true a0_0 a0_1 a0_2 a0_3 a0_4 a0_5 a0_6 a0_7 a0_8 l0_9) = some r := by rw [if_neg (show ¬ (false = true) by decide)] at H; exact H
       clear H;have H := H1;clear H1;have H' := Aside0.mk H;clear H
       have hcz23_0 : wc.cell? ⟨gb764, 0, none⟩ = some (.int .i64 a0_0) := (blk_cell BK764.out 0).trans rfl
       have hcz23_1 : wc.cell? ⟨gb764, 1, none⟩ = some (.int .i64 a0_1) := (blk_cell BK764.out 1).trans rfl
       have hcz23_2 : wc.cell? ⟨gb764, 2, none⟩ = some (.int .i64 a0_2) := (blk_cell BK764.out 2).trans rfl
       have hcz23_3 : wc.cell? ⟨gb764, 3, none⟩ = some (.int .i64 a0_3) := (blk_cell BK764.out 3).trans rfl
       have hcz23_4 : wc.cell? ⟨gb764, 4, none⟩ = some (.int .i64 a0_4) := (blk_cell BK764.out 4).trans rfl
       have hcz23_5 : wc.cell? ⟨gb764, 5, none⟩ = some (.int .i64 a0_5) := (blk_cell BK764.out 5).trans rfl
       have hcz23_6 : wc.cell? ⟨gb764, 6, none⟩ = some (.int .i64 a0_6) := (blk_cell BK764.out 6).trans rfl
       have hcz23_7 : wc.cell? ⟨gb764, 7, none⟩ = some (.int .i64 a0_7) := (blk_cell BK764.out 7).trans rfl
       have hcz23_8 : wc.cell? ⟨gb764, 8, none⟩ = some (.int .i64 a0_8) := (blk_cell BK764.out 8).trans rfl
       have hcz23_9 : wc.cell? ⟨gb764, 9, none⟩ = some (.slice A0_9 l0_9.length c0_9) := (blk_cell BK764.out 9).trans rfl
       have hfz23_0 := blk_frozen BK764.out 0;have hfz23_1 := blk_frozen BK764.out 1;have hfz23_2 := blk_frozen BK764.out 2;have hfz23_3 := blk_frozen BK764.out 3;have hfz23_4 := blk_frozen BK764.out 4;have hfz23_5 := blk_frozen BK764.out 5;have hfz23_6 := blk_frozen BK764.out 6;have hfz23_7 := blk_frozen BK764.out 7;have hfz23_8 := blk_frozen BK764.out 8;have hfz23_9 := blk_frozen BK764.out 9
       go_wp2_with (first | (go_at_call 92; (with_reducible refine (tenorref8_in.calls a0_2 1 1200 false _ A13.out).mono ?_); rintro e w' ⟨rfl, ⟨nd, rfl⟩⟩))
       go_meet
       case rel => exact ⟨_, (true), (by first | rfl | (simp; done) | (simp [*]; done)), H', ⟨by have := HJ1.out; first | omega | exact Nat.le_refl _⟩, ⟨by (with_reducible repeat (first | refine blk_drewN ?_ _ | refine blk_drew ?_ | refine blk_alloc ?_ _)); exact BK764.out⟩, ⟨by repeat (first | (with_reducible first | exact HB.out | apply below_alloc | apply pw_below_drewN | apply below_drew1 | refine below_set ?_ GE764.out) | exact HB.out)⟩⟩
    case rest =>
     clear HC10
     obtain ⟨kq, x43_9, rfl, HA, HJ9, BK764, HB⟩ := hcut
     cases kq with
     | zero => exact absurd HA.out (by simp [tenorref8_Check.j1])
     | succ kj9 =>
      have H := HA.out;clear HA
      simp only [tenorref8_Check.j1] at H
      by_cases c24 : x43_9 = true
      ·
       subst c24
       have H1 : (some 80) = some r := by rw [if_pos rfl] at H; exact H
       clear H;have H := H1;clear H1
       obtain rfl := Option.some.inj H
       go_wp2
       go_ret
       exact ⟨by first | rfl | (simp [errW_none, errW_some] <;> rfl) | (simp [*, errW_none, errW_some] <;> rfl), by repeat (first | (with_reducible first | exact HB.out | apply below_alloc | apply pw_below_drewN | apply below_drew1 | refine below_set ?_ GE764.out) | exact HB.out)⟩
      ·
       replace c24 := Bool.eq_false_iff.mpr c24;subst c24
       have H1 : (if a0_5 = 0 then ((tenorref8_in.f a0_6 0 4).bind fun t771 => (if t771 = true then ((tenorref8_in.f a0_7 0 30).bind fun t772 => (if t772 = true then ((tenorref6_Check.f kj9 a0_8 l0_9).bind fun bt773 => (some bt773.1)) else (some 80))) else (some 80))) else (if a0_3 < 3 then (some 80) else ((tenorref8_in.f a0_6 0 4).bind fun t775 => (if t775 = true then ((tenorref8_in.f a0_7 0 30).bind fun t776 => (if t776 = true then ((tenorref6_Check.f kj9 a0_8 l0_9).bind fun bt777 => (some bt777.1)) else (some 80))) else (some 80))))) = some r := by rw [if_neg (show ¬ (false = true) by decide)] at H; exact H
       clear H;have H := H1;clear H1
       by_cases c25 : a0_5 = 0
       ·
        rw [if_pos c25] at H
        have c25b0 : (a0_5 == 0) = true := beq_iff_eq.mpr c25
        have c25b1 : (a0_5 != 0) = false := bne_eq_false_iff_eq.mpr c25
        clear c25;replace H := Option.bind_eq_some_iff.mp H
        obtain ⟨t771, A260, H⟩ := H
        replace H : (if t771 = true then ((tenorref8_in.f a0_7 0 30).bind fun t772 => (if t772 = true then ((tenorref6_Check.f kj9 a0_8 l0_9).bind fun bt773 => (some bt773.1)) else (some 80))) else (some 80)) = some r := H
        have A26 := Aside0.mk A260;clear A260
        by_cases c27 : t771 = true
        ·
         subst c27
         have H1 : ((tenorref8_in.f a0_7 0 30).bind fun t772 => (if t772 = true then ((tenorref6_Check.f kj9 a0_8 l0_9).bind fun bt773 => (some bt773.1)) else (some 80))) = some r := by rw [if_pos rfl] at H; exact H
         clear H;have H := H1;clear H1;replace H := Option.bind_eq_some_iff.mp H
         obtain ⟨t772, A280, H⟩ := H
         replace H : (if t772 = true then ((tenorref6_Check.f kj9 a0_8 l0_9).bind fun bt773 => (some bt773.1)) else (some 80)) = some r := H
         have A28 := Aside0.mk A280;clear A280
         by_cases c29 : t772 = true
         ·
          subst c29
          have H1 : ((tenorref6_Check.f kj9 a0_8 l0_9).bind fun bt773 => (some bt773.1)) = some r := by rw [if_pos rfl] at H; exact H
          clear H;have H := H1;clear H1;replace H := Option.bind_eq_some_iff.mp H
          obtain ⟨⟨t773, t774⟩, A300, H⟩ := H
          replace H : (some t773) = some r := H
          have A30 := Aside0.mk A300;clear A300
          obtain rfl := Option.some.inj H
          have hcz31_0 : wc.cell? ⟨gb764, 0, none⟩ = some (.int .i64 a0_0) := (blk_cell BK764.out 0).trans rfl
          have hcz31_1 : wc.cell? ⟨gb764, 1, none⟩ = some (.int .i64 a0_1) := (blk_cell BK764.out 1).trans rfl
          have hcz31_2 : wc.cell? ⟨gb764, 2, none⟩ = some (.int .i64 a0_2) := (blk_cell BK764.out 2).trans rfl
          have hcz31_3 : wc.cell? ⟨gb764, 3, none⟩ = some (.int .i64 a0_3) := (blk_cell BK764.out 3).trans rfl
          have hcz31_4 : wc.cell? ⟨gb764, 4, none⟩ = some (.int .i64 a0_4) := (blk_cell BK764.out 4).trans rfl
          have hcz31_5 : wc.cell? ⟨gb764, 5, none⟩ = some (.int .i64 a0_5) := (blk_cell BK764.out 5).trans rfl
          have hcz31_6 : wc.cell? ⟨gb764, 6, none⟩ = some (.int .i64 a0_6) := (blk_cell BK764.out 6).trans rfl
          have hcz31_7 : wc.cell? ⟨gb764, 7, none⟩ = some (.int .i64 a0_7) := (blk_cell BK764.out 7).trans rfl
          have hcz31_8 : wc.cell? ⟨gb764, 8, none⟩ = some (.int .i64 a0_8) := (blk_cell BK764.out 8).trans rfl
          have hcz31_9 : wc.cell? ⟨gb764, 9, none⟩ = some (.slice A0_9 l0_9.length c0_9) := (blk_cell BK764.out 9).trans rfl
          have hfz31_0 := blk_frozen BK764.out 0;have hfz31_1 := blk_frozen BK764.out 1;have hfz31_2 := blk_frozen BK764.out 2;have hfz31_3 := blk_frozen BK764.out 3;have hfz31_4 := blk_frozen BK764.out 4;have hfz31_5 := blk_frozen BK764.out 5;have hfz31_6 := blk_frozen BK764.out 6;have hfz31_7 := blk_frozen BK764.out 7;have hfz31_8 := blk_frozen BK764.out 8;have hfz31_9 := blk_frozen BK764.out 9
          go_wp2_with (first | (go_at_call 92; (with_reducible refine (tenorref8_in.calls a0_6 0 4 true _ A26.out).mono ?_); rintro e w' ⟨rfl, ⟨nd, rfl⟩⟩) | (go_at_call 92; (with_reducible refine (tenorref8_in.calls a0_7 0 30 true _ A28.out).mono ?_); rintro e w' ⟨rfl, ⟨nd, rfl⟩⟩) | ((with_reducible refine gate_callee (f := 45) rfl ?_); refine goesL_ (some 67) rfl rfl Try.func45 (by kernel_rfl) rfl #[.agg #[.int .i64 a0_8, .slice A0_9 l0_9.length c0_9]] rfl (by (try simp only [List.map_toArray, List.map_cons, List.map_nil]); first | done | rfl | (simp only [List.length_drop, List.length_take]; rfl)) ?_; (with_reducible refine (tenorref6_Check.calls kj9 a0_8 _ _ l0_9 t773 t774 _ ?side1 ?side2 A30.out).mono ?_); (case side1 => repeat (first | exact (Kd.C_below HR0_9.out (by repeat (first | (with_reducible first | exact HB.out | apply below_alloc | apply pw_below_drewN | apply below_drew1 | refine below_set ?_ GE764.out) | exact HB.out))) | (with_reducible refine Kd.C_alloc ?_ _) | (with_reducible refine Kd.C_drewN ?_ _) | (with_reducible refine Kd.C_drew ?_))); (case side2 => exact HC0_9.out); rintro e w32 ⟨rfl, hb⟩; refine ⟨_, rfl, ?_⟩; have n0_ := Aside0.mk (blk_below (g := gb764) (o := .cells #[.int .i64 a0_0, .int .i64 a0_1, .int .i64 a0_2, .int .i64 a0_3, .int .i64 a0_4, .int .i64 a0_5, .int .i64 a0_6, .int .i64 a0_7, .int .i64 a0_8, .slice A0_9 l0_9.length c0_9] 66 (0, 0)) (by (with_reducible repeat (first | refine blk_drewN ?_ _ | refine blk_drew ?_ | refine blk_alloc ?_ _)); exact BK764.out) hb); have n1_ := Aside0.mk (below_step (by repeat (first | (with_reducible first | exact HB.out | apply below_alloc | apply pw_below_drewN | apply below_drew1 | refine below_set ?_ GE764.out) | exact HB.out)) hb); clear BK764; clear HB; have BK764 := n0_; have HB := n1_; clear n0_ n1_; (try clear hb); (try clear hb2); (try clear hk); (try clear hi)))
          go_ret
          exact ⟨by first | rfl | (simp [errW_none, errW_some] <;> rfl) | (simp [*, errW_none, errW_some] <;> rfl), by repeat (first | (with_reducible first | exact HB.out | apply below_alloc | apply pw_below_drewN | apply below_drew1 | refine below_set ?_ GE764.out) | exact HB.out)⟩
         ·
          replace c29 := Bool.eq_false_iff.mpr c29;subst c29
          have H1 : (some 80) = some r := by rw [if_neg (show ¬ (false = true) by decide)] at H; exact H
          clear H;have H := H1;clear H1
          obtain rfl := Option.some.inj H
          have hcz33_0 : wc.cell? ⟨gb764, 0, none⟩ = some (.int .i64 a0_0) := (blk_cell BK764.out 0).trans rfl
          have hcz33_1 : wc.cell? ⟨gb764, 1, none⟩ = some (.int .i64 a0_1) := (blk_cell BK764.out 1).trans rfl
          have hcz33_2 : wc.cell? ⟨gb764, 2, none⟩ = some (.int .i64 a0_2) := (blk_cell BK764.out 2).trans rfl
          have hcz33_3 : wc.cell? ⟨gb764, 3, none⟩ = some (.int .i64 a0_3) := (blk_cell BK764.out 3).trans rfl
          have hcz33_4 : wc.cell? ⟨gb764, 4, none⟩ = some (.int .i64 a0_4) := (blk_cell BK764.out 4).trans rfl
          have hcz33_5 : wc.cell? ⟨gb764, 5, none⟩ = some (.int .i64 a0_5) := (blk_cell BK764.out 5).trans rfl
          have hcz33_6 : wc.cell? ⟨gb764, 6, none⟩ = some (.int .i64 a0_6) := (blk_cell BK764.out 6).trans rfl
          have hcz33_7 : wc.cell? ⟨gb764, 7, none⟩ = some (.int .i64 a0_7) := (blk_cell BK764.out 7).trans rfl
          have hcz33_8 : wc.cell? ⟨gb764, 8, none⟩ = some (.int .i64 a0_8) := (blk_cell BK764.out 8).trans rfl
          have hcz33_9 : wc.cell? ⟨gb764, 9, none⟩ = some (.slice A0_9 l0_9.length c0_9) := (blk_cell BK764.out 9).trans rfl
          have hfz33_0 := blk_frozen BK764.out 0;have hfz33_1 := blk_frozen BK764.out 1;have hfz33_2 := blk_frozen BK764.out 2;have hfz33_3 := blk_frozen BK764.out 3;have hfz33_4 := blk_frozen BK764.out 4;have hfz33_5 := blk_frozen BK764.out 5;have hfz33_6 := blk_frozen BK764.out 6;have hfz33_7 := blk_frozen BK764.out 7;have hfz33_8 := blk_frozen BK764.out 8;have hfz33_9 := blk_frozen BK764.out 9
          go_wp2_with (first | (go_at_call 92; (with_reducible refine (tenorref8_in.calls a0_6 0 4 true _ A26.out).mono ?_); rintro e w' ⟨rfl, ⟨nd, rfl⟩⟩) | (go_at_call 92; (with_reducible refine (tenorref8_in.calls a0_7 0 30 false _ A28.out).mono ?_); rintro e w' ⟨rfl, ⟨nd, rfl⟩⟩))
          go_ret
          exact ⟨by first | rfl | (simp [errW_none, errW_some] <;> rfl) | (simp [*, errW_none, errW_some] <;> rfl), by repeat (first | (with_reducible first | exact HB.out | apply below_alloc | apply pw_below_drewN | apply below_drew1 | refine below_set ?_ GE764.out) | exact HB.out)⟩
        ·
         replace c27 := Bool.eq_false_iff.mpr c27;subst c27
         have H1 : (some 80) = some r := by rw [if_neg (show ¬ (false = true) by decide)] at H; exact H
         clear H;have H := H1;clear H1
         obtain rfl := Option.some.inj H
         have hcz34_0 : wc.cell? ⟨gb764, 0, none⟩ = some (.int .i64 a0_0) := (blk_cell BK764.out 0).trans rfl
         have hcz34_1 : wc.cell? ⟨gb764, 1, none⟩ = some (.int .i64 a0_1) := (blk_cell BK764.out 1).trans rfl
         have hcz34_2 : wc.cell? ⟨gb764, 2, none⟩ = some (.int .i64 a0_2) := (blk_cell BK764.out 2).trans rfl
         have hcz34_3 : wc.cell? ⟨gb764, 3, none⟩ = some (.int .i64 a0_3) := (blk_cell BK764.out 3).trans rfl
         have hcz34_4 : wc.cell? ⟨gb764, 4, none⟩ = some (.int .i64 a0_4) := (blk_cell BK764.out 4).trans rfl
         have hcz34_5 : wc.cell? ⟨gb764, 5, none⟩ = some (.int .i64 a0_5) := (blk_cell BK764.out 5).trans rfl
         have hcz34_6 : wc.cell? ⟨gb764, 6, none⟩ = some (.int .i64 a0_6) := (blk_cell BK764.out 6).trans rfl
         have hcz34_7 : wc.cell? ⟨gb764, 7, none⟩ = some (.int .i64 a0_7) := (blk_cell BK764.out 7).trans rfl
         have hcz34_8 : wc.cell? ⟨gb764, 8, none⟩ = some (.int .i64 a0_8) := (blk_cell BK764.out 8).trans rfl
         have hcz34_9 : wc.cell? ⟨gb764, 9, none⟩ = some (.slice A0_9 l0_9.length c0_9) := (blk_cell BK764.out 9).trans rfl
         have hfz34_0 := blk_frozen BK764.out 0;have hfz34_1 := blk_frozen BK764.out 1;have hfz34_2 := blk_frozen BK764.out 2;have hfz34_3 := blk_frozen BK764.out 3;have hfz34_4 := blk_frozen BK764.out 4;have hfz34_5 := blk_frozen BK764.out 5;have hfz34_6 := blk_frozen BK764.out 6;have hfz34_7 := blk_frozen BK764.out 7;have hfz34_8 := blk_frozen BK764.out 8;have hfz34_9 := blk_frozen BK764.out 9
         go_wp2_with (first | (go_at_call 92; (with_reducible refine (tenorref8_in.calls a0_6 0 4 false _ A26.out).mono ?_); rintro e w' ⟨rfl, ⟨nd, rfl⟩⟩))
         go_ret
         exact ⟨by first | rfl | (simp [errW_none, errW_some] <;> rfl) | (simp [*, errW_none, errW_some] <;> rfl), by repeat (first | (with_reducible first | exact HB.out | apply below_alloc | apply pw_below_drewN | apply below_drew1 | refine below_set ?_ GE764.out) | exact HB.out)⟩
       ·
        rw [if_neg c25] at H
        have c25b0 : (a0_5 == 0) = false := beq_eq_false_iff_ne.mpr c25
        have c25b1 : (a0_5 != 0) = true := bne_iff_ne.mpr c25
        by_cases c35 : a0_3 < 3
        ·
         rw [if_pos c35] at H
         have c35b0 : decide (a0_3 < 3) = true := decide_eq_true c35
         clear c35
         obtain rfl := Option.some.inj H
         have hcz36_0 : wc.cell? ⟨gb764, 0, none⟩ = some (.int .i64 a0_0) := (blk_cell BK764.out 0).trans rfl
         have hcz36_1 : wc.cell? ⟨gb764, 1, none⟩ = some (.int .i64 a0_1) := (blk_cell BK764.out 1).trans rfl
         have hcz36_2 : wc.cell? ⟨gb764, 2, none⟩ = some (.int .i64 a0_2) := (blk_cell BK764.out 2).trans rfl
         have hcz36_3 : wc.cell? ⟨gb764, 3, none⟩ = some (.int .i64 a0_3) := (blk_cell BK764.out 3).trans rfl
         have hcz36_4 : wc.cell? ⟨gb764, 4, none⟩ = some (.int .i64 a0_4) := (blk_cell BK764.out 4).trans rfl
         have hcz36_5 : wc.cell? ⟨gb764, 5, none⟩ = some (.int .i64 a0_5) := (blk_cell BK764.out 5).trans rfl
         have hcz36_6 : wc.cell? ⟨gb764, 6, none⟩ = some (.int .i64 a0_6) := (blk_cell BK764.out 6).trans rfl
         have hcz36_7 : wc.cell? ⟨gb764, 7, none⟩ = some (.int .i64 a0_7) := (blk_cell BK764.out 7).trans rfl
         have hcz36_8 : wc.cell? ⟨gb764, 8, none⟩ = some (.int .i64 a0_8) := (blk_cell BK764.out 8).trans rfl
         have hcz36_9 : wc.cell? ⟨gb764, 9, none⟩ = some (.slice A0_9 l0_9.length c0_9) := (blk_cell BK764.out 9).trans rfl
         have hfz36_0 := blk_frozen BK764.out 0;have hfz36_1 := blk_frozen BK764.out 1;have hfz36_2 := blk_frozen BK764.out 2;have hfz36_3 := blk_frozen BK764.out 3;have hfz36_4 := blk_frozen BK764.out 4;have hfz36_5 := blk_frozen BK764.out 5;have hfz36_6 := blk_frozen BK764.out 6;have hfz36_7 := blk_frozen BK764.out 7;have hfz36_8 := blk_frozen BK764.out 8;have hfz36_9 := blk_frozen BK764.out 9
         go_wp2
         go_ret
         exact ⟨by first | rfl | (simp [errW_none, errW_some] <;> rfl) | (simp [*, errW_none, errW_some] <;> rfl), by repeat (first | (with_reducible first | exact HB.out | apply below_alloc | apply pw_below_drewN | apply below_drew1 | refine below_set ?_ GE764.out) | exact HB.out)⟩
        ·
         rw [if_neg c35] at H
         have c35b0 : decide (a0_3 < 3) = false := decide_eq_false c35
         clear c35;replace H := Option.bind_eq_some_iff.mp H
         obtain ⟨t775, A370, H⟩ := H
         replace H : (if t775 = true then ((tenorref8_in.f a0_7 0 30).bind fun t776 => (if t776 = true then ((tenorref6_Check.f kj9 a0_8 l0_9).bind fun bt777 => (some bt777.1)) else (some 80))) else (some 80)) = some r := H
         have A37 := Aside0.mk A370;clear A370
         by_cases c38 : t775 = true
         ·
          subst c38
          have H1 : ((tenorref8_in.f a0_7 0 30).bind fun t776 => (if t776 = true then ((tenorref6_Check.f kj9 a0_8 l0_9).bind fun bt777 => (some bt777.1)) else (some 80))) = some r := by rw [if_pos rfl] at H; exact H
          clear H;have H := H1;clear H1;replace H := Option.bind_eq_some_iff.mp H
          obtain ⟨t776, A390, H⟩ := H
          replace H : (if t776 = true then ((tenorref6_Check.f kj9 a0_8 l0_9).bind fun bt777 => (some bt777.1)) else (some 80)) = some r := H
          have A39 := Aside0.mk A390;clear A390
          by_cases c40 : t776 = true
          ·
           subst c40
           have H1 : ((tenorref6_Check.f kj9 a0_8 l0_9).bind fun bt777 => (some bt777.1)) = some r := by rw [if_pos rfl] at H; exact H
           clear H;have H := H1;clear H1;replace H := Option.bind_eq_some_iff.mp H
           obtain ⟨⟨t777, t778⟩, A410, H⟩ := H
           replace H : (some t777) = some r := H
           have A41 := Aside0.mk A410;clear A410
           obtain rfl := Option.some.inj H
           have hcz42_0 : wc.cell? ⟨gb764, 0, none⟩ = some (.int .i64 a0_0) := (blk_cell BK764.out 0).trans rfl
           have hcz42_1 : wc.cell? ⟨gb764, 1, none⟩ = some (.int .i64 a0_1) := (blk_cell BK764.out 1).trans rfl
           have hcz42_2 : wc.cell? ⟨gb764, 2, none⟩ = some (.int .i64 a0_2) := (blk_cell BK764.out 2).trans rfl
           have hcz42_3 : wc.cell? ⟨gb764, 3, none⟩ = some (.int .i64 a0_3) := (blk_cell BK764.out 3).trans rfl
           have hcz42_4 : wc.cell? ⟨gb764, 4, none⟩ = some (.int .i64 a0_4) := (blk_cell BK764.out 4).trans rfl
           have hcz42_5 : wc.cell? ⟨gb764, 5, none⟩ = some (.int .i64 a0_5) := (blk_cell BK764.out 5).trans rfl
           have hcz42_6 : wc.cell? ⟨gb764, 6, none⟩ = some (.int .i64 a0_6) := (blk_cell BK764.out 6).trans rfl
           have hcz42_7 : wc.cell? ⟨gb764, 7, none⟩ = some (.int .i64 a0_7) := (blk_cell BK764.out 7).trans rfl
           have hcz42_8 : wc.cell? ⟨gb764, 8, none⟩ = some (.int .i64 a0_8) := (blk_cell BK764.out 8).trans rfl
           have hcz42_9 : wc.cell? ⟨gb764, 9, none⟩ = some (.slice A0_9 l0_9.length c0_9) := (blk_cell BK764.out 9).trans rfl
           have hfz42_0 := blk_frozen BK764.out 0;have hfz42_1 := blk_frozen BK764.out 1;have hfz42_2 := blk_frozen BK764.out 2;have hfz42_3 := blk_frozen BK764.out 3;have hfz42_4 := blk_frozen BK764.out 4;have hfz42_5 := blk_frozen BK764.out 5;have hfz42_6 := blk_frozen BK764.out 6;have hfz42_7 := blk_frozen BK764.out 7;have hfz42_8 := blk_frozen BK764.out 8;have hfz42_9 := blk_frozen BK764.out 9
           go_wp2_with (first | (go_at_call 92; (with_reducible refine (tenorref8_in.calls a0_6 0 4 true _ A37.out).mono ?_); rintro e w' ⟨rfl, ⟨nd, rfl⟩⟩) | (go_at_call 92; (with_reducible refine (tenorref8_in.calls a0_7 0 30 true _ A39.out).mono ?_); rintro e w' ⟨rfl, ⟨nd, rfl⟩⟩) | ((with_reducible refine gate_callee (f := 45) rfl ?_); refine goesL_ (some 67) rfl rfl Try.func45 (by kernel_rfl) rfl #[.agg #[.int .i64 a0_8, .slice A0_9 l0_9.length c0_9]] rfl (by (try simp only [List.map_toArray, List.map_cons, List.map_nil]); first | done | rfl | (simp only [List.length_drop, List.length_take]; rfl)) ?_; (with_reducible refine (tenorref6_Check.calls kj9 a0_8 _ _ l0_9 t777 t778 _ ?side1 ?side2 A41.out).mono ?_); (case side1 => repeat (first | exact (Kd.C_below HR0_9.out (by repeat (first | (with_reducible first | exact HB.out | apply below_alloc | apply pw_below_drewN | apply below_drew1 | refine below_set ?_ GE764.out) | exact HB.out))) | (with_reducible refine Kd.C_alloc ?_ _) | (with_reducible refine Kd.C_drewN ?_ _) | (with_reducible refine Kd.C_drew ?_))); (case side2 => exact HC0_9.out); rintro e w43 ⟨rfl, hb⟩; refine ⟨_, rfl, ?_⟩; have n0_ := Aside0.mk (blk_below (g := gb764) (o := .cells #[.int .i64 a0_0, .int .i64 a0_1, .int .i64 a0_2, .int .i64 a0_3, .int .i64 a0_4, .int .i64 a0_5, .int .i64 a0_6, .int .i64 a0_7, .int .i64 a0_8, .slice A0_9 l0_9.length c0_9] 66 (0, 0)) (by (with_reducible repeat (first | refine blk_drewN ?_ _ | refine blk_drew ?_ | refine blk_alloc ?_ _)); exact BK764.out) hb); have n1_ := Aside0.mk (below_step (by repeat (first | (with_reducible first | exact HB.out | apply below_alloc | apply pw_below_drewN | apply below_drew1 | refine below_set ?_ GE764.out) | exact HB.out)) hb); clear BK764; clear HB; have BK764 := n0_; have HB := n1_; clear n0_ n1_; (try clear hb); (try clear hb2); (try clear hk); (try clear hi)))
           go_ret
           exact ⟨by first | rfl | (simp [errW_none, errW_some] <;> rfl) | (simp [*, errW_none, errW_some] <;> rfl), by repeat (first | (with_reducible first | exact HB.out | apply below_alloc | apply pw_below_drewN | apply below_drew1 | refine below_set ?_ GE764.out) | exact HB.out)⟩
          ·
           replace c40 := Bool.eq_false_iff.mpr c40;subst c40
           have H1 : (some 80) = some r := by rw [if_neg (show ¬ (false = true) by decide)] at H; exact H
           clear H;have H := H1;clear H1
           obtain rfl := Option.some.inj H
           have hcz44_0 : wc.cell? ⟨gb764, 0, none⟩ = some (.int .i64 a0_0) := (blk_cell BK764.out 0).trans rfl
           have hcz44_1 : wc.cell? ⟨gb764, 1, none⟩ = some (.int .i64 a0_1) := (blk_cell BK764.out 1).trans rfl
           have hcz44_2 : wc.cell? ⟨gb764, 2, none⟩ = some (.int .i64 a0_2) := (blk_cell BK764.out 2).trans rfl
           have hcz44_3 : wc.cell? ⟨gb764, 3, none⟩ = some (.int .i64 a0_3) := (blk_cell BK764.out 3).trans rfl
           have hcz44_4 : wc.cell? ⟨gb764, 4, none⟩ = some (.int .i64 a0_4) := (blk_cell BK764.out 4).trans rfl
           have hcz44_5 : wc.cell? ⟨gb764, 5, none⟩ = some (.int .i64 a0_5) := (blk_cell BK764.out 5).trans rfl
           have hcz44_6 : wc.cell? ⟨gb764, 6, none⟩ = some (.int .i64 a0_6) := (blk_cell BK764.out 6).trans rfl
           have hcz44_7 : wc.cell? ⟨gb764, 7, none⟩ = some (.int .i64 a0_7) := (blk_cell BK764.out 7).trans rfl
           have hcz44_8 : wc.cell? ⟨gb764, 8, none⟩ = some (.int .i64 a0_8) := (blk_cell BK764.out 8).trans rfl
           have hcz44_9 : wc.cell? ⟨gb764, 9, none⟩ = some (.slice A0_9 l0_9.length c0_9) := (blk_cell BK764.out 9).trans rfl
           have hfz44_0 := blk_frozen BK764.out 0;have hfz44_1 := blk_frozen BK764.out 1;have hfz44_2 := blk_frozen BK764.out 2;have hfz44_3 := blk_frozen BK764.out 3;have hfz44_4 := blk_frozen BK764.out 4;have hfz44_5 := blk_frozen BK764.out 5;have hfz44_6 := blk_frozen BK764.out 6;have hfz44_7 := blk_frozen BK764.out 7;have hfz44_8 := blk_frozen BK764.out 8;have hfz44_9 := blk_frozen BK764.out 9
           go_wp2_with (first | (go_at_call 92; (with_reducible refine (tenorref8_in.calls a0_6 0 4 true _ A37.out).mono ?_); rintro e w' ⟨rfl, ⟨nd, rfl⟩⟩) | (go_at_call 92; (with_reducible refine (tenorref8_in.calls a0_7 0 30 false _ A39.out).mono ?_); rintro e w' ⟨rfl, ⟨nd, rfl⟩⟩))
           go_ret
           exact ⟨by first | rfl | (simp [errW_none, errW_some] <;> rfl) | (simp [*, errW_none, errW_some] <;> rfl), by repeat (first | (with_reducible first | exact HB.out | apply below_alloc | apply pw_below_drewN | apply below_drew1 | refine below_set ?_ GE764.out) | exact HB.out)⟩
         ·
          replace c38 := Bool.eq_false_iff.mpr c38;subst c38
          have H1 : (some 80) = some r := by rw [if_neg (show ¬ (false = true) by decide)] at H; exact H
          clear H;have H := H1;clear H1
          obtain rfl := Option.some.inj H
          have hcz45_0 : wc.cell? ⟨gb764, 0, none⟩ = some (.int .i64 a0_0) := (blk_cell BK764.out 0).trans rfl
          have hcz45_1 : wc.cell? ⟨gb764, 1, none⟩ = some (.int .i64 a0_1) := (blk_cell BK764.out 1).trans rfl
          have hcz45_2 : wc.cell? ⟨gb764, 2, none⟩ = some (.int .i64 a0_2) := (blk_cell BK764.out 2).trans rfl
          have hcz45_3 : wc.cell? ⟨gb764, 3, none⟩ = some (.int .i64 a0_3) := (blk_cell BK764.out 3).trans rfl
          have hcz45_4 : wc.cell? ⟨gb764, 4, none⟩ = some (.int .i64 a0_4) := (blk_cell BK764.out 4).trans rfl
          have hcz45_5 : wc.cell? ⟨gb764, 5, none⟩ = some (.int .i64 a0_5) := (blk_cell BK764.out 5).trans rfl
          have hcz45_6 : wc.cell? ⟨gb764, 6, none⟩ = some (.int .i64 a0_6) := (blk_cell BK764.out 6).trans rfl
          have hcz45_7 : wc.cell? ⟨gb764, 7, none⟩ = some (.int .i64 a0_7) := (blk_cell BK764.out 7).trans rfl
          have hcz45_8 : wc.cell? ⟨gb764, 8, none⟩ = some (.int .i64 a0_8) := (blk_cell BK764.out 8).trans rfl
          have hcz45_9 : wc.cell? ⟨gb764, 9, none⟩ = some (.slice A0_9 l0_9.length c0_9) := (blk_cell BK764.out 9).trans rfl
          have hfz45_0 := blk_frozen BK764.out 0;have hfz45_1 := blk_frozen BK764.out 1;have hfz45_2 := blk_frozen BK764.out 2;have hfz45_3 := blk_frozen BK764.out 3;have hfz45_4 := blk_frozen BK764.out 4;have hfz45_5 := blk_frozen BK764.out 5;have hfz45_6 := blk_frozen BK764.out 6;have hfz45_7 := blk_frozen BK764.out 7;have hfz45_8 := blk_frozen BK764.out 8;have hfz45_9 := blk_frozen BK764.out 9
          go_wp2_with (first | (go_at_call 92; (with_reducible refine (tenorref8_in.calls a0_6 0 4 false _ A37.out).mono ?_); rintro e w' ⟨rfl, ⟨nd, rfl⟩⟩))
          go_ret
          exact ⟨by first | rfl | (simp [errW_none, errW_some] <;> rfl) | (simp [*, errW_none, errW_some] <;> rfl), by repeat (first | (with_reducible first | exact HB.out | apply below_alloc | apply pw_below_drewN | apply below_drew1 | refine below_set ?_ GE764.out) | exact HB.out)⟩
end Go.Proofs.Ytoncignjcgjhhaa.Q
