/- Contracts and facts of functions of the program (calendar, dates and their documents), joined in one text by a program of this session. No condition but what each theorem states. -/
import Derived.Test.YtoncignjcgjhhaaLGA
import Derived.Test.YtoncignjcgjhhaaLGC
import Derived.Test.YtoncignjcgjhhaaLGB
import Derived.Test.YtoncignjcgjhhaaLGD
set_option linter.unusedVariables false
set_option linter.unusedSimpArgs false
namespace Go.Proofs.Ytoncignjcgjhhaa.Q
open Go.RowKit Go.Proofs.YtoncignjcgjhhaaW.PrintWords Go.Proofs.YtoncignjcgjhhaaW.PrintLast Go.Proofs.YtoncignjcgjhhaaW.PrintMore
attribute [local go_sem] max2_int min2_int max_two min_two max_three min_three max_four min_four   -- for this text's walks alone
def cal_Check.f (a0_0 : Int) (l0_1 : List S63)  : Option (Int × Int) := if wfL l0_1 then some (Go.Proofs.Ytoncignjcgjhhaa.M.chk a0_0 (l0_1.map Go.Proofs.Ytoncignjcgjhhaa.H.ru) ) else none
theorem cal_Check.calls (a0_0 : Int) (A0_1 : Option Addr) (c0_1 : Nat) (l0_1 : List (S63)) (r1 r2 : Int) (w : World) (hr0_1 : Kd.C k63 w A0_1 l0_1.length l0_1) (hc0_1 : l0_1.length ≤ c0_1) (h : cal_Check.f a0_0 l0_1  = some (r1, r2)) :
  Calls Try.prog 44 #[.agg #[.int .i64 a0_0, .slice A0_1 l0_1.length c0_1]] w fun e w' => e = .returned (.tuple #[.int .i64 r1, .int .i64 r2]) ∧ Below w.heap.size w w' := by
 unfold cal_Check.f at h
 split at h
 ·
  rename_i hc
  have e := Option.some.inj h
  have c := Go.Proofs.Ytoncignjcgjhhaa.H.check_calls a0_0 A0_1 c0_1 l0_1  w hr0_1 (wfL_mem hc)
  rw [e] at c
  exact c
 ·
  cases h
end Go.Proofs.Ytoncignjcgjhhaa.Q
namespace Go.Proofs.Ytoncignjcgjhhaa.Q
open Go.RowKit Go.Proofs.YtoncignjcgjhhaaW.PrintWords Go.Proofs.YtoncignjcgjhhaaW.PrintLast Go.Proofs.YtoncignjcgjhhaaW.PrintMore
attribute [local go_sem] max2_int min2_int max_two min_two max_three min_three max_four min_four   -- for this text's walks alone
def sched_is.f (a0 : Int) : Option (Bool) := if a0 ≥ 0 then (some (decide (a0 ≤ 109572))) else (some false)
set_option maxHeartbeats 8000000 in
set_option maxRecDepth 100000 in
theorem sched_is.calls (a0 : Int) (r : Bool) (w : World) (h : sched_is.f a0 = some r) :
  Calls Try.prog 90 #[.int .i64 a0] w fun e w' => e = .returned (.bool r) ∧ Drawn0 w w' := by
 have H : (if a0 ≥ 0 then (some (decide (a0 ≤ 109572))) else (some false)) = some r := h
 clear h
 by_cases c2 : a0 ≥ 0
 ·
  rw [if_pos c2] at H
  have c2b0 : decide (0 ≤ a0) = true := decide_eq_true c2
  clear c2
  obtain rfl := Option.some.inj H
  go_enter Try.func90, Try.ntmps90
  go_wp2
  go_ret
  exact ⟨eS, eD⟩
 ·
  rw [if_neg c2] at H
  have c2b0 : decide (0 ≤ a0) = false := decide_eq_false c2
  clear c2
  obtain rfl := Option.some.inj H
  go_enter Try.func90, Try.ntmps90
  go_wp2
  go_ret
  exact ⟨eS, eD⟩
end Go.Proofs.Ytoncignjcgjhhaa.Q
namespace Go.Proofs.Ytoncignjcgjhhaa.Q
open Go.RowKit Go.Proofs.YtoncignjcgjhhaaW.PrintWords Go.Proofs.YtoncignjcgjhhaaW.PrintLast Go.Proofs.YtoncignjcgjhhaaW.PrintMore
attribute [local go_sem] max2_int min2_int max_two min_two max_three min_three max_four min_four   -- for this text's walks alone
def sched_within.f (a0 a1 a2 : Int) : Option (Bool) := if a0 ≥ a1 then (some (decide (a0 ≤ a2))) else (some false)
set_option maxHeartbeats 8000000 in
set_option maxRecDepth 100000 in
theorem sched_within.calls (a0 a1 a2 : Int) (r : Bool) (w : World) (h : sched_within.f a0 a1 a2 = some r) :
  Calls Try.prog 91 #[.int .i64 a0, .int .i64 a1, .int .i64 a2] w fun e w' => e = .returned (.bool r) ∧ Drawn0 w w' := by
 have H : (if a0 ≥ a1 then (some (decide (a0 ≤ a2))) else (some false)) = some r := h
 clear h
 by_cases c4 : a0 ≥ a1
 ·
  rw [if_pos c4] at H
  have c4b0 : decide (a1 ≤ a0) = true := decide_eq_true c4
  clear c4
  obtain rfl := Option.some.inj H
  go_enter Try.func91, Try.ntmps91
  go_wp2
  go_ret
  exact ⟨eS, eD⟩
 ·
  rw [if_neg c4] at H
  have c4b0 : decide (a1 ≤ a0) = false := decide_eq_false c4
  clear c4
  obtain rfl := Option.some.inj H
  go_enter Try.func91, Try.ntmps91
  go_wp2
  go_ret
  exact ⟨eS, eD⟩
end Go.Proofs.Ytoncignjcgjhhaa.Q
namespace Go.Proofs.Ytoncignjcgjhhaa.Q
open Go.RowKit Go.Proofs.YtoncignjcgjhhaaW.PrintWords Go.Proofs.YtoncignjcgjhhaaW.PrintLast Go.Proofs.YtoncignjcgjhhaaW.PrintMore
attribute [local go_sem] max2_int min2_int max_two min_two max_three min_three max_four min_four   -- for this text's walks alone
mutual
def sched_Check.j0 : Nat → Bool → Int → Int → Int → Int → Int → Int → Int → Int → Int → List (S63) → Option (Int)
  | 0, _, _, _, _, _, _, _, _, _, _, _ => none
  | k + 1, x5, x710000, x710001, x710002, x710003, x710004, x710005, x710006, x710007, x710008, x710009 => if x5 = true then (some 51) else (if x710000 ≥ x710001 then (some 80) else ((sched_within.f x710002 1 1200).bind fun t712 => (if t712 = true then ((sched_within.f x710003 1 4).bind fun t713 => (if t713 = true then ((sched_within.f x710004 1 4).bind fun t714 => (if t714 = true then ((sched_within.f x710005 0 2).bind fun t715 => (if t715 = true then (if x710005 = 0 then (sched_Check.j1 k false x710000 x710001 x710002 x710003 x710004 x710005 x710006 x710007 x710008 x710009) else (sched_Check.j1 k (decide (x710003 ≤ 2)) x710000 x710001 x710002 x710003 x710004 x710005 x710006 x710007 x710008 x710009)) else (some 80))) else (some 80))) else (some 80))) else (some 80))))
def sched_Check.j1 : Nat → Bool → Int → Int → Int → Int → Int → Int → Int → Int → Int → List (S63) → Option (Int)
  | 0, _, _, _, _, _, _, _, _, _, _, _ => none
  | k + 1, x16, x710000, x710001, x710002, x710003, x710004, x710005, x710006, x710007, x710008, x710009 => if x16 = true then (some 80) else ((sched_within.f x710006 0 4).bind fun t716 => (if t716 = true then ((sched_within.f x710007 0 30).bind fun t717 => (if t717 = true then ((cal_Check.f x710008 x710009).bind fun bt718 => (some bt718.1)) else (some 80))) else (some 80)))
end
def sched_Check.f (k : Nat) (a0_0 a0_1 a0_2 a0_3 a0_4 a0_5 a0_6 a0_7 a0_8 : Int) (l0_9 : List (S63)) : Option (Int) := (sched_is.f a0_0).bind fun t710 => (if t710 = true then ((sched_is.f a0_1).bind fun t711 => (sched_Check.j0 k (!t711) a0_0 a0_1 a0_2 a0_3 a0_4 a0_5 a0_6 a0_7 a0_8 l0_9)) else (sched_Check.j0 k true a0_0 a0_1 a0_2 a0_3 a0_4 a0_5 a0_6 a0_7 a0_8 l0_9))
theorem sched_Check.mono_l : ∀ k, (∀ y0 y1 y2 y3 y4 y5 y6 y7 y8 y9 y10, LeO (sched_Check.j0 k y0 y1 y2 y3 y4 y5 y6 y7 y8 y9 y10) (sched_Check.j0 (k + 1) y0 y1 y2 y3 y4 y5 y6 y7 y8 y9 y10)) ∧ (∀ y0 y1 y2 y3 y4 y5 y6 y7 y8 y9 y10, LeO (sched_Check.j1 k y0 y1 y2 y3 y4 y5 y6 y7 y8 y9 y10) (sched_Check.j1 (k + 1) y0 y1 y2 y3 y4 y5 y6 y7 y8 y9 y10))
 | 0 => ⟨fun _ _ _ _ _ _ _ _ _ _ _ r h => by simp [sched_Check.j0] at h, fun _ _ _ _ _ _ _ _ _ _ _ r h => by simp [sched_Check.j1] at h⟩
 | k + 1 => by
  obtain ⟨ih0, ih1⟩ := sched_Check.mono_l k
  refine ⟨?_, ?_⟩
  ·
   intro y0 y1 y2 y3 y4 y5 y6 y7 y8 y9 y10
   unfold sched_Check.j0
   exact mL
  ·
   intro y0 y1 y2 y3 y4 y5 y6 y7 y8 y9 y10
   unfold sched_Check.j1
   exact mL
theorem sched_Check.mono : ∀ a0 a1 a2 a3 a4 a5 a6 a7 a8 a9 k, LeO (sched_Check.f k a0 a1 a2 a3 a4 a5 a6 a7 a8 a9) (sched_Check.f (k + 1) a0 a1 a2 a3 a4 a5 a6 a7 a8 a9) := by
 intro a0 a1 a2 a3 a4 a5 a6 a7 a8 a9 k
 obtain ⟨ih0, ih1⟩ := sched_Check.mono_l k
 unfold sched_Check.f
 exact mL
set_option maxHeartbeats 8000000 in
set_option maxRecDepth 100000 in
theorem sched_Check.calls (k : Nat) (a0_0 a0_1 a0_2 a0_3 a0_4 a0_5 a0_6 a0_7 a0_8 : Int) (A0_9 : Option Addr) (c0_9 : Nat) (l0_9 : List (S63)) (r : Int) (w : World) (hr0_9 : Kd.C k63 w A0_9 l0_9.length l0_9) (hc0_9 : l0_9.length ≤ c0_9) (h : sched_Check.f k a0_0 a0_1 a0_2 a0_3 a0_4 a0_5 a0_6 a0_7 a0_8 l0_9 = some r) :
  Calls Try.prog 57 #[.agg #[.int .i64 a0_0, .int .i64 a0_1, .int .i64 a0_2, .int .i64 a0_3, .int .i64 a0_4, .int .i64 a0_5, .int .i64 a0_6, .int .i64 a0_7, .int .i64 a0_8, .slice A0_9 l0_9.length c0_9]] w fun e w' => e = .returned (.int .i64 r) ∧ Below w.heap.size w w' := by
 have hu66 := Try.underlying66;have hu24 := Try.underlying24;have HR0_9 := Aside0.mk hr0_9;have HC0_9 := Aside0.mk hc0_9;clear hr0_9 hc0_9
 have HB := Aside0.mk (Below.refl w.heap.size w)
 have H : ((sched_is.f a0_0).bind fun t710 => (if t710 = true then ((sched_is.f a0_1).bind fun t711 => (sched_Check.j0 k (!t711) a0_0 a0_1 a0_2 a0_3 a0_4 a0_5 a0_6 a0_7 a0_8 l0_9)) else (sched_Check.j0 k true a0_0 a0_1 a0_2 a0_3 a0_4 a0_5 a0_6 a0_7 a0_8 l0_9))) = some r := h
 clear h;have HC2 := Aside0.mk H;clear H
 go_enter Try.func57, Try.ntmps57
 go_upto_region 1 with (first | ((with_reducible refine gate_dst (N := 1) rfl ?_); refine box_event ?hg (N := 1) ?hd (cs := #[.int .i64 a0_0, .int .i64 a0_1, .int .i64 a0_2, .int .i64 a0_3, .int .i64 a0_4, .int .i64 a0_5, .int .i64 a0_6, .int .i64 a0_7, .int .i64 a0_8, .slice A0_9 l0_9.length c0_9]) (t := 66) ?hr ?_; (case hd => rfl); (case hg => rfl); (case hr => first | (go_simp; done) | (go_simp; rfl)); intro gb709 hg w3 hbox hb; have BK709 := Aside0.mk (hbox); have GW709 := bG hg; have GE709 := bG hg; replace HB := bS hb; clear hb hbox hg))
 (try simp only [Act.put, List.setIfInBounds_toArray, List.set_cons_zero, List.set_cons_succ])
 go_cut [5] (fun v5 wc => ∃ (kq : Nat) (x5_1 : Bool), v5 = .bool x5_1 ∧ Aside0 (sched_Check.j0 kq x5_1 a0_0 a0_1 a0_2 a0_3 a0_4 a0_5 a0_6 a0_7 a0_8 l0_9 = some r) ∧ Aside0 (kq ≤ k) ∧ Aside0 (wc.heap[gb709]? = some (.cells #[.int .i64 a0_0, .int .i64 a0_1, .int .i64 a0_2, .int .i64 a0_3, .int .i64 a0_4, .int .i64 a0_5, .int .i64 a0_6, .int .i64 a0_7, .int .i64 a0_8, (.slice A0_9 l0_9.length c0_9)] 66 (0, 0))) ∧ Aside0 (Below w.heap.size w wc))
 case first =>
  have H := HC2.out;clear HC2;replace H := Option.bind_eq_some_iff.mp H
  obtain ⟨t710, A40, H⟩ := H
  replace H : (if t710 = true then ((sched_is.f a0_1).bind fun t711 => (sched_Check.j0 k (!t711) a0_0 a0_1 a0_2 a0_3 a0_4 a0_5 a0_6 a0_7 a0_8 l0_9)) else (sched_Check.j0 k true a0_0 a0_1 a0_2 a0_3 a0_4 a0_5 a0_6 a0_7 a0_8 l0_9)) = some r := H
  have A4 := Aside0.mk A40;clear A40
  by_cases c5 : t710 = true
  ·
   subst c5
   have H1 : ((sched_is.f a0_1).bind fun t711 => (sched_Check.j0 k (!t711) a0_0 a0_1 a0_2 a0_3 a0_4 a0_5 a0_6 a0_7 a0_8 l0_9)) = some r := by rw [if_pos rfl] at H; exact H
   clear H;have H := H1;clear H1;replace H := Option.bind_eq_some_iff.mp H
   obtain ⟨t711, A60, H⟩ := H
   replace H : (sched_Check.j0 k (!t711) a0_0 a0_1 a0_2 a0_3 a0_4 a0_5 a0_6 a0_7 a0_8 l0_9) = some r := H
   have A6 := Aside0.mk A60;clear A60;have H' := Aside0.mk H;clear H
   obtain ⟨_,_,_,_,_,_,_,_,_,_,_,_,_,_,_,_,_,_,_,_⟩ := blk10 BK709
   go_wp2_with (first | ((with_reducible refine gG 90 ?_); refine goA (some 8) Try.func90 #[.int .i64 a0_0] ?_; (with_reducible refine (sched_is.calls a0_0 true _ A4.out).mono ?_); rintro e w' ⟨rfl, ⟨nd, rfl⟩⟩; refine ⟨_, rfl, ?_⟩) | (go_at_call 90; (with_reducible refine (sched_is.calls a0_1 t711 _ A6.out).mono ?_); rintro e w' ⟨rfl, ⟨nd, rfl⟩⟩))
   go_meet
   case rel => exact ⟨_, (!t711), eS, H', ⟨eN⟩, ⟨(bk BK709)⟩, ⟨bB⟩⟩
  ·
   replace c5 := Bool.eq_false_iff.mpr c5;subst c5
   have H1 : (sched_Check.j0 k true a0_0 a0_1 a0_2 a0_3 a0_4 a0_5 a0_6 a0_7 a0_8 l0_9) = some r := by rw [if_neg (show ¬ (false = true) by decide)] at H; exact H
   clear H;have H := H1;clear H1;have H' := Aside0.mk H;clear H
   obtain ⟨_,_,_,_,_,_,_,_,_,_,_,_,_,_,_,_,_,_,_,_⟩ := blk10 BK709
   go_wp2_with (first | ((with_reducible refine gG 90 ?_); refine goA (some 8) Try.func90 #[.int .i64 a0_0] ?_; (with_reducible refine (sched_is.calls a0_0 false _ A4.out).mono ?_); rintro e w' ⟨rfl, ⟨nd, rfl⟩⟩; refine ⟨_, rfl, ?_⟩))
   go_meet
   case rel => exact ⟨_, (true), eS, H', ⟨eN⟩, ⟨(bk BK709)⟩, ⟨bB⟩⟩
 case rest =>
  clear HC2
  obtain ⟨kq, x5_1, rfl, HA, HJ1, BK709, HB⟩ := hcut
  cases kq with
  | zero => exact absurd HA.out (by simp [sched_Check.j0])
  | succ kj1 =>
   have H := HA.out;clear HA
   simp only [sched_Check.j0] at H
   by_cases c9 : x5_1 = true
   ·
    subst c9
    have H1 : (some 51) = some r := by rw [if_pos rfl] at H; exact H
    clear H;have H := H1;clear H1
    obtain rfl := Option.some.inj H
    go_wp2
    go_ret
    exact ⟨eW, bB⟩
   ·
    replace c9 := Bool.eq_false_iff.mpr c9;subst c9
    have H1 : (if a0_0 ≥ a0_1 then (some 80) else ((sched_within.f a0_2 1 1200).bind fun t712 => (if t712 = true then ((sched_within.f a0_3 1 4).bind fun t713 => (if t713 = true then ((sched_within.f a0_4 1 4).bind fun t714 => (if t714 = true then ((sched_within.f a0_5 0 2).bind fun t715 => (if t715 = true then (if a0_5 = 0 then (sched_Check.j1 kj1 false a0_0 a0_1 a0_2 a0_3 a0_4 a0_5 a0_6 a0_7 a0_8 l0_9) else (sched_Check.j1 kj1 (decide (a0_3 ≤ 2)) a0_0 a0_1 a0_2 a0_3 a0_4 a0_5 a0_6 a0_7 a0_8 l0_9)) else (some 80))) else (some 80))) else (some 80))) else (some 80)))) = some r := by rw [if_neg (show ¬ (false = true) by decide)] at H; exact H
    clear H;have H := H1;clear H1
    by_cases c10 : a0_0 ≥ a0_1
    ·
     rw [if_pos c10] at H
     have c10b0 : decide (a0_1 ≤ a0_0) = true := decide_eq_true c10
     clear c10
     obtain rfl := Option.some.inj H
     obtain ⟨_,_,_,_,_,_,_,_,_,_,_,_,_,_,_,_,_,_,_,_⟩ := blk10 BK709
     go_wp2
     go_ret
     exact ⟨eW, bB⟩
    ·
     rw [if_neg c10] at H
     have c10b0 : decide (a0_1 ≤ a0_0) = false := decide_eq_false c10
     clear c10;replace H := Option.bind_eq_some_iff.mp H
     obtain ⟨t712, A120, H⟩ := H
     replace H : (if t712 = true then ((sched_within.f a0_3 1 4).bind fun t713 => (if t713 = true then ((sched_within.f a0_4 1 4).bind fun t714 => (if t714 = true then ((sched_within.f a0_5 0 2).bind fun t715 => (if t715 = true then (if a0_5 = 0 then (sched_Check.j1 kj1 false a0_0 a0_1 a0_2 a0_3 a0_4 a0_5 a0_6 a0_7 a0_8 l0_9) else (sched_Check.j1 kj1 (decide (a0_3 ≤ 2)) a0_0 a0_1 a0_2 a0_3 a0_4 a0_5 a0_6 a0_7 a0_8 l0_9)) else (some 80))) else (some 80))) else (some 80))) else (some 80)) = some r := H
     have A12 := Aside0.mk A120;clear A120
     by_cases c13 : t712 = true
     ·
      subst c13
      have H1 : ((sched_within.f a0_3 1 4).bind fun t713 => (if t713 = true then ((sched_within.f a0_4 1 4).bind fun t714 => (if t714 = true then ((sched_within.f a0_5 0 2).bind fun t715 => (if t715 = true then (if a0_5 = 0 then (sched_Check.j1 kj1 false a0_0 a0_1 a0_2 a0_3 a0_4 a0_5 a0_6 a0_7 a0_8 l0_9) else (sched_Check.j1 kj1 (decide (a0_3 ≤ 2)) a0_0 a0_1 a0_2 a0_3 a0_4 a0_5 a0_6 a0_7 a0_8 l0_9)) else (some 80))) else (some 80))) else (some 80))) = some r := by rw [if_pos rfl] at H; exact H
      clear H;have H := H1;clear H1;replace H := Option.bind_eq_some_iff.mp H
      obtain ⟨t713, A140, H⟩ := H
      replace H : (if t713 = true then ((sched_within.f a0_4 1 4).bind fun t714 => (if t714 = true then ((sched_within.f a0_5 0 2).bind fun t715 => (if t715 = true then (if a0_5 = 0 then (sched_Check.j1 kj1 false a0_0 a0_1 a0_2 a0_3 a0_4 a0_5 a0_6 a0_7 a0_8 l0_9) else (sched_Check.j1 kj1 (decide (a0_3 ≤ 2)) a0_0 a0_1 a0_2 a0_3 a0_4 a0_5 a0_6 a0_7 a0_8 l0_9)) else (some 80))) else (some 80))) else (some 80)) = some r := H
      have A14 := Aside0.mk A140;clear A140
      by_cases c15 : t713 = true
      ·
       subst c15
       have H1 : ((sched_within.f a0_4 1 4).bind fun t714 => (if t714 = true then ((sched_within.f a0_5 0 2).bind fun t715 => (if t715 = true then (if a0_5 = 0 then (sched_Check.j1 kj1 false a0_0 a0_1 a0_2 a0_3 a0_4 a0_5 a0_6 a0_7 a0_8 l0_9) else (sched_Check.j1 kj1 (decide (a0_3 ≤ 2)) a0_0 a0_1 a0_2 a0_3 a0_4 a0_5 a0_6 a0_7 a0_8 l0_9)) else (some 80))) else (some 80))) = some r := by rw [if_pos rfl] at H; exact H
       clear H;have H := H1;clear H1;replace H := Option.bind_eq_some_iff.mp H
       obtain ⟨t714, A160, H⟩ := H
       replace H : (if t714 = true then ((sched_within.f a0_5 0 2).bind fun t715 => (if t715 = true then (if a0_5 = 0 then (sched_Check.j1 kj1 false a0_0 a0_1 a0_2 a0_3 a0_4 a0_5 a0_6 a0_7 a0_8 l0_9) else (sched_Check.j1 kj1 (decide (a0_3 ≤ 2)) a0_0 a0_1 a0_2 a0_3 a0_4 a0_5 a0_6 a0_7 a0_8 l0_9)) else (some 80))) else (some 80)) = some r := H
       have A16 := Aside0.mk A160;clear A160
       by_cases c17 : t714 = true
       ·
        subst c17
        have H1 : ((sched_within.f a0_5 0 2).bind fun t715 => (if t715 = true then (if a0_5 = 0 then (sched_Check.j1 kj1 false a0_0 a0_1 a0_2 a0_3 a0_4 a0_5 a0_6 a0_7 a0_8 l0_9) else (sched_Check.j1 kj1 (decide (a0_3 ≤ 2)) a0_0 a0_1 a0_2 a0_3 a0_4 a0_5 a0_6 a0_7 a0_8 l0_9)) else (some 80))) = some r := by rw [if_pos rfl] at H; exact H
        clear H;have H := H1;clear H1;replace H := Option.bind_eq_some_iff.mp H
        obtain ⟨t715, A180, H⟩ := H
        replace H : (if t715 = true then (if a0_5 = 0 then (sched_Check.j1 kj1 false a0_0 a0_1 a0_2 a0_3 a0_4 a0_5 a0_6 a0_7 a0_8 l0_9) else (sched_Check.j1 kj1 (decide (a0_3 ≤ 2)) a0_0 a0_1 a0_2 a0_3 a0_4 a0_5 a0_6 a0_7 a0_8 l0_9)) else (some 80)) = some r := H
        have A18 := Aside0.mk A180;clear A180
        by_cases c19 : t715 = true
        ·
         subst c19
         have H1 : (if a0_5 = 0 then (sched_Check.j1 kj1 false a0_0 a0_1 a0_2 a0_3 a0_4 a0_5 a0_6 a0_7 a0_8 l0_9) else (sched_Check.j1 kj1 (decide (a0_3 ≤ 2)) a0_0 a0_1 a0_2 a0_3 a0_4 a0_5 a0_6 a0_7 a0_8 l0_9)) = some r := by rw [if_pos rfl] at H; exact H
         clear H;have H := H1;clear H1;have HC20 := Aside0.mk H;clear H
         obtain ⟨_,_,_,_,_,_,_,_,_,_,_,_,_,_,_,_,_,_,_,_⟩ := blk10 BK709
         go_upto_region 8 with (first | ((with_reducible refine gG 91 ?_); refine goA (some 24) Try.func91 #[.int .i64 a0_2, .int .i64 1, .int .i64 1200] ?_; (with_reducible refine (sched_within.calls a0_2 1 1200 true _ A12.out).mono ?_); rintro e w' ⟨rfl, ⟨nd, rfl⟩⟩; refine ⟨_, rfl, ?_⟩) | ((with_reducible refine gG 91 ?_); refine goA (some 28) Try.func91 #[.int .i64 a0_3, .int .i64 1, .int .i64 4] ?_; (with_reducible refine (sched_within.calls a0_3 1 4 true _ A14.out).mono ?_); rintro e w' ⟨rfl, ⟨nd, rfl⟩⟩; refine ⟨_, rfl, ?_⟩) | ((with_reducible refine gG 91 ?_); refine goA (some 32) Try.func91 #[.int .i64 a0_4, .int .i64 1, .int .i64 4] ?_; (with_reducible refine (sched_within.calls a0_4 1 4 true _ A16.out).mono ?_); rintro e w' ⟨rfl, ⟨nd, rfl⟩⟩; refine ⟨_, rfl, ?_⟩) | ((with_reducible refine gG 91 ?_); refine goA (some 36) Try.func91 #[.int .i64 a0_5, .int .i64 0, .int .i64 2] ?_; (with_reducible refine (sched_within.calls a0_5 0 2 true _ A18.out).mono ?_); rintro e w' ⟨rfl, ⟨nd, rfl⟩⟩; refine ⟨_, rfl, ?_⟩))
         (try simp only [Act.put, List.setIfInBounds_toArray, List.set_cons_zero, List.set_cons_succ])
         go_cut [16] (fun v16 wc => ∃ (kq : Nat) (x16_19 : Bool), v16 = .bool x16_19 ∧ Aside0 (sched_Check.j1 kq x16_19 a0_0 a0_1 a0_2 a0_3 a0_4 a0_5 a0_6 a0_7 a0_8 l0_9 = some r) ∧ Aside0 (kq ≤ kj1) ∧ Aside0 (wc.heap[gb709]? = some (.cells #[.int .i64 a0_0, .int .i64 a0_1, .int .i64 a0_2, .int .i64 a0_3, .int .i64 a0_4, .int .i64 a0_5, .int .i64 a0_6, .int .i64 a0_7, .int .i64 a0_8, (.slice A0_9 l0_9.length c0_9)] 66 (0, 0))) ∧ Aside0 (Below w.heap.size w wc))
         case first =>
          have H := HC20.out;clear HC20
          by_cases c22 : a0_5 = 0
          ·
           rw [if_pos c22] at H
           have c22b0 : (a0_5 == 0) = true := beq_iff_eq.mpr c22
           have c22b1 : (a0_5 != 0) = false := bne_eq_false_iff_eq.mpr c22
           clear c22
           (first | rw [c22b0] | (simp only [i64_w, i32_w]; rw [c22b0]) | skip)
           have H' := Aside0.mk H;clear H
           obtain ⟨_,_,_,_,_,_,_,_,_,_,_,_,_,_,_,_,_,_,_,_⟩ := blk10 BK709
           go_wp2
           go_meet
           case rel => exact ⟨_, (false), eS, H', ⟨by have := HJ1.out; first | omega | exact Nat.le_refl _⟩, ⟨(bk BK709)⟩, ⟨bB⟩⟩
          ·
           rw [if_neg c22] at H
           have c22b0 : (a0_5 == 0) = false := beq_eq_false_iff_ne.mpr c22
           have c22b1 : (a0_5 != 0) = true := bne_iff_ne.mpr c22
           (first | rw [c22b0] | (simp only [i64_w, i32_w]; rw [c22b0]) | skip)
           have H' := Aside0.mk H;clear H
           obtain ⟨_,_,_,_,_,_,_,_,_,_,_,_,_,_,_,_,_,_,_,_⟩ := blk10 BK709
           go_wp2
           go_meet
           case rel => exact ⟨_, (decide (a0_3 ≤ 2)), eS, H', ⟨by have := HJ1.out; first | omega | exact Nat.le_refl _⟩, ⟨(bk BK709)⟩, ⟨bB⟩⟩
         case rest =>
          clear HC20
          obtain ⟨kq, x16_19, rfl, HA, HJ19, BK709, HB⟩ := hcut
          cases kq with
          | zero => exact absurd HA.out (by simp [sched_Check.j1])
          | succ kj19 =>
           have H := HA.out;clear HA
           simp only [sched_Check.j1] at H
           by_cases c25 : x16_19 = true
           ·
            subst c25
            have H1 : (some 80) = some r := by rw [if_pos rfl] at H; exact H
            clear H;have H := H1;clear H1
            obtain rfl := Option.some.inj H
            go_wp2
            go_ret
            exact ⟨eW, bB⟩
           ·
            replace c25 := Bool.eq_false_iff.mpr c25;subst c25
            have H1 : ((sched_within.f a0_6 0 4).bind fun t716 => (if t716 = true then ((sched_within.f a0_7 0 30).bind fun t717 => (if t717 = true then ((cal_Check.f a0_8 l0_9).bind fun bt718 => (some bt718.1)) else (some 80))) else (some 80))) = some r := by rw [if_neg (show ¬ (false = true) by decide)] at H; exact H
            clear H;have H := H1;clear H1;replace H := Option.bind_eq_some_iff.mp H
            obtain ⟨t716, A260, H⟩ := H
            replace H : (if t716 = true then ((sched_within.f a0_7 0 30).bind fun t717 => (if t717 = true then ((cal_Check.f a0_8 l0_9).bind fun bt718 => (some bt718.1)) else (some 80))) else (some 80)) = some r := H
            have A26 := Aside0.mk A260;clear A260
            by_cases c27 : t716 = true
            ·
             subst c27
             have H1 : ((sched_within.f a0_7 0 30).bind fun t717 => (if t717 = true then ((cal_Check.f a0_8 l0_9).bind fun bt718 => (some bt718.1)) else (some 80))) = some r := by rw [if_pos rfl] at H; exact H
             clear H;have H := H1;clear H1;replace H := Option.bind_eq_some_iff.mp H
             obtain ⟨t717, A280, H⟩ := H
             replace H : (if t717 = true then ((cal_Check.f a0_8 l0_9).bind fun bt718 => (some bt718.1)) else (some 80)) = some r := H
             have A28 := Aside0.mk A280;clear A280
             by_cases c29 : t717 = true
             ·
              subst c29
              have H1 : ((cal_Check.f a0_8 l0_9).bind fun bt718 => (some bt718.1)) = some r := by rw [if_pos rfl] at H; exact H
              clear H;have H := H1;clear H1;replace H := Option.bind_eq_some_iff.mp H
              obtain ⟨⟨t718, t719⟩, A300, H⟩ := H
              replace H : (some t718) = some r := H
              have A30 := Aside0.mk A300;clear A300
              obtain rfl := Option.some.inj H
              obtain ⟨_,_,_,_,_,_,_,_,_,_,_,_,_,_,_,_,_,_,_,_⟩ := blk10 BK709
              go_wp2_with (first | ((with_reducible refine gG 91 ?_); refine goA (some 48) Try.func91 #[.int .i64 a0_6, .int .i64 0, .int .i64 4] ?_; (with_reducible refine (sched_within.calls a0_6 0 4 true _ A26.out).mono ?_); rintro e w' ⟨rfl, ⟨nd, rfl⟩⟩; refine ⟨_, rfl, ?_⟩) | ((with_reducible refine gG 91 ?_); refine goA (some 52) Try.func91 #[.int .i64 a0_7, .int .i64 0, .int .i64 30] ?_; (with_reducible refine (sched_within.calls a0_7 0 30 true _ A28.out).mono ?_); rintro e w' ⟨rfl, ⟨nd, rfl⟩⟩; refine ⟨_, rfl, ?_⟩) | ((with_reducible refine gG 44 ?_); refine goA (some 57) Try.func44 #[.agg #[.int .i64 a0_8, .slice A0_9 l0_9.length c0_9]] ?_; (with_reducible refine (cal_Check.calls a0_8 _ _ l0_9 t718 t719 _ ?side1 ?side2 A30.out).mono ?_); (case side1 => repeat (first | exact (Kd.C_below HR0_9.out bB) | (with_reducible refine Kd.C_alloc ?_ _) | (with_reducible refine Kd.C_drewN ?_ _) | (with_reducible refine Kd.C_drew ?_))); (case side2 => exact HC0_9.out); rintro e w32 ⟨rfl, hb⟩; refine ⟨_, rfl, ?_⟩; replace BK709 := bK BK709 hb; replace HB := bS hb; (try clear hb); (try clear hb2); (try clear hk); (try clear hi)))
              go_ret
              exact ⟨eW, bB⟩
             ·
              replace c29 := Bool.eq_false_iff.mpr c29;subst c29
              have H1 : (some 80) = some r := by rw [if_neg (show ¬ (false = true) by decide)] at H; exact H
              clear H;have H := H1;clear H1
              obtain rfl := Option.some.inj H
              obtain ⟨_,_,_,_,_,_,_,_,_,_,_,_,_,_,_,_,_,_,_,_⟩ := blk10 BK709
              go_wp2_with (first | ((with_reducible refine gG 91 ?_); refine goA (some 48) Try.func91 #[.int .i64 a0_6, .int .i64 0, .int .i64 4] ?_; (with_reducible refine (sched_within.calls a0_6 0 4 true _ A26.out).mono ?_); rintro e w' ⟨rfl, ⟨nd, rfl⟩⟩; refine ⟨_, rfl, ?_⟩) | ((with_reducible refine gG 91 ?_); refine goA (some 52) Try.func91 #[.int .i64 a0_7, .int .i64 0, .int .i64 30] ?_; (with_reducible refine (sched_within.calls a0_7 0 30 false _ A28.out).mono ?_); rintro e w' ⟨rfl, ⟨nd, rfl⟩⟩; refine ⟨_, rfl, ?_⟩))
              go_ret
              exact ⟨eW, bB⟩
            ·
             replace c27 := Bool.eq_false_iff.mpr c27;subst c27
             have H1 : (some 80) = some r := by rw [if_neg (show ¬ (false = true) by decide)] at H; exact H
             clear H;have H := H1;clear H1
             obtain rfl := Option.some.inj H
             obtain ⟨_,_,_,_,_,_,_,_,_,_,_,_,_,_,_,_,_,_,_,_⟩ := blk10 BK709
             go_wp2_with (first | ((with_reducible refine gG 91 ?_); refine goA (some 48) Try.func91 #[.int .i64 a0_6, .int .i64 0, .int .i64 4] ?_; (with_reducible refine (sched_within.calls a0_6 0 4 false _ A26.out).mono ?_); rintro e w' ⟨rfl, ⟨nd, rfl⟩⟩; refine ⟨_, rfl, ?_⟩))
             go_ret
             exact ⟨eW, bB⟩
        ·
         replace c19 := Bool.eq_false_iff.mpr c19;subst c19
         have H1 : (some 80) = some r := by rw [if_neg (show ¬ (false = true) by decide)] at H; exact H
         clear H;have H := H1;clear H1
         obtain rfl := Option.some.inj H
         obtain ⟨_,_,_,_,_,_,_,_,_,_,_,_,_,_,_,_,_,_,_,_⟩ := blk10 BK709
         go_wp2_with (first | ((with_reducible refine gG 91 ?_); refine goA (some 24) Try.func91 #[.int .i64 a0_2, .int .i64 1, .int .i64 1200] ?_; (with_reducible refine (sched_within.calls a0_2 1 1200 true _ A12.out).mono ?_); rintro e w' ⟨rfl, ⟨nd, rfl⟩⟩; refine ⟨_, rfl, ?_⟩) | ((with_reducible refine gG 91 ?_); refine goA (some 28) Try.func91 #[.int .i64 a0_3, .int .i64 1, .int .i64 4] ?_; (with_reducible refine (sched_within.calls a0_3 1 4 true _ A14.out).mono ?_); rintro e w' ⟨rfl, ⟨nd, rfl⟩⟩; refine ⟨_, rfl, ?_⟩) | ((with_reducible refine gG 91 ?_); refine goA (some 32) Try.func91 #[.int .i64 a0_4, .int .i64 1, .int .i64 4] ?_; (with_reducible refine (sched_within.calls a0_4 1 4 true _ A16.out).mono ?_); rintro e w' ⟨rfl, ⟨nd, rfl⟩⟩; refine ⟨_, rfl, ?_⟩) | ((with_reducible refine gG 91 ?_); refine goA (some 36) Try.func91 #[.int .i64 a0_5, .int .i64 0, .int .i64 2] ?_; (with_reducible refine (sched_within.calls a0_5 0 2 false _ A18.out).mono ?_); rintro e w' ⟨rfl, ⟨nd, rfl⟩⟩; refine ⟨_, rfl, ?_⟩))
         go_ret
         exact ⟨eW, bB⟩
       ·
        replace c17 := Bool.eq_false_iff.mpr c17;subst c17
        have H1 : (some 80) = some r := by rw [if_neg (show ¬ (false = true) by decide)] at H; exact H
        clear H;have H := H1;clear H1
        obtain rfl := Option.some.inj H
        obtain ⟨_,_,_,_,_,_,_,_,_,_,_,_,_,_,_,_,_,_,_,_⟩ := blk10 BK709
        go_wp2_with (first | ((with_reducible refine gG 91 ?_); refine goA (some 24) Try.func91 #[.int .i64 a0_2, .int .i64 1, .int .i64 1200] ?_; (with_reducible refine (sched_within.calls a0_2 1 1200 true _ A12.out).mono ?_); rintro e w' ⟨rfl, ⟨nd, rfl⟩⟩; refine ⟨_, rfl, ?_⟩) | ((with_reducible refine gG 91 ?_); refine goA (some 28) Try.func91 #[.int .i64 a0_3, .int .i64 1, .int .i64 4] ?_; (with_reducible refine (sched_within.calls a0_3 1 4 true _ A14.out).mono ?_); rintro e w' ⟨rfl, ⟨nd, rfl⟩⟩; refine ⟨_, rfl, ?_⟩) | ((with_reducible refine gG 91 ?_); refine goA (some 32) Try.func91 #[.int .i64 a0_4, .int .i64 1, .int .i64 4] ?_; (with_reducible refine (sched_within.calls a0_4 1 4 false _ A16.out).mono ?_); rintro e w' ⟨rfl, ⟨nd, rfl⟩⟩; refine ⟨_, rfl, ?_⟩))
        go_ret
        exact ⟨eW, bB⟩
      ·
       replace c15 := Bool.eq_false_iff.mpr c15;subst c15
       have H1 : (some 80) = some r := by rw [if_neg (show ¬ (false = true) by decide)] at H; exact H
       clear H;have H := H1;clear H1
       obtain rfl := Option.some.inj H
       obtain ⟨_,_,_,_,_,_,_,_,_,_,_,_,_,_,_,_,_,_,_,_⟩ := blk10 BK709
       go_wp2_with (first | ((with_reducible refine gG 91 ?_); refine goA (some 24) Try.func91 #[.int .i64 a0_2, .int .i64 1, .int .i64 1200] ?_; (with_reducible refine (sched_within.calls a0_2 1 1200 true _ A12.out).mono ?_); rintro e w' ⟨rfl, ⟨nd, rfl⟩⟩; refine ⟨_, rfl, ?_⟩) | ((with_reducible refine gG 91 ?_); refine goA (some 28) Try.func91 #[.int .i64 a0_3, .int .i64 1, .int .i64 4] ?_; (with_reducible refine (sched_within.calls a0_3 1 4 false _ A14.out).mono ?_); rintro e w' ⟨rfl, ⟨nd, rfl⟩⟩; refine ⟨_, rfl, ?_⟩))
       go_ret
       exact ⟨eW, bB⟩
     ·
      replace c13 := Bool.eq_false_iff.mpr c13;subst c13
      have H1 : (some 80) = some r := by rw [if_neg (show ¬ (false = true) by decide)] at H; exact H
      clear H;have H := H1;clear H1
      obtain rfl := Option.some.inj H
      obtain ⟨_,_,_,_,_,_,_,_,_,_,_,_,_,_,_,_,_,_,_,_⟩ := blk10 BK709
      go_wp2_with (first | ((with_reducible refine gG 91 ?_); refine goA (some 24) Try.func91 #[.int .i64 a0_2, .int .i64 1, .int .i64 1200] ?_; (with_reducible refine (sched_within.calls a0_2 1 1200 false _ A12.out).mono ?_); rintro e w' ⟨rfl, ⟨nd, rfl⟩⟩; refine ⟨_, rfl, ?_⟩))
      go_ret
      exact ⟨eW, bB⟩
end Go.Proofs.Ytoncignjcgjhhaa.Q
namespace Go.Proofs.Ytoncignjcgjhhaa.Q
open Go.RowKit Go.Proofs.YtoncignjcgjhhaaW.PrintWords Go.Proofs.YtoncignjcgjhhaaW.PrintLast Go.Proofs.YtoncignjcgjhhaaW.PrintMore
attribute [local go_sem] max2_int min2_int max_two min_two max_three min_three max_four min_four   -- for this text's walks alone
def sched_point.j0 : Nat → Int → Int → Int → Int → Int → Int → Int → Int → Int → Int → Int → List (S63) → Option (Int × Bool)
  | 0, _, _, _, _, _, _, _, _, _, _, _, _ => none
  | k + 1, x1, x2, x734000, x734001, x734002, x734003, x734004, x734005, x734006, x734007, x734008, x734009 => (date_Months.f k x1 x2 false).bind fun bt736 => (if bt736.2 = 0 then ((date_Civil.f k bt736.1).bind fun bt738 => (if x734005 = 1 then ((date_Length.f bt738.1 bt738.2.1).bind fun bt742 => ((date_Of.f k bt738.1 bt738.2.1 bt742.1).bind fun bt744 => (some (bt744.1, true)))) else (if x734005 = 2 then ((date_Third.f k bt738.1 bt738.2.1).bind fun bt746 => (some (bt746.1, true))) else (some (bt736.1, true))))) else (some (0, false)))
def sched_point.f (k : Nat) (a0_0 a0_1 a0_2 a0_3 a0_4 a0_5 a0_6 a0_7 a0_8 : Int) (l0_9 : List (S63)) (a1 a2 : Int) : Option (Int × Bool) := if a0_3 = 2 then ((sched_is.f (wrap64 (a1 + (wrap64 ((wrap64 ((mn (mx a2 (-1048576)) 1048576) * a0_2)) * 7))))).bind fun t734 => (some (wrap64 (a1 + (wrap64 ((wrap64 ((mn (mx a2 (-1048576)) 1048576) * a0_2)) * 7))), t734))) else (if a0_3 = 1 then ((sched_is.f (wrap64 (a1 + (wrap64 ((mn (mx a2 (-1048576)) 1048576) * a0_2))))).bind fun t735 => (some (wrap64 (a1 + (wrap64 ((mn (mx a2 (-1048576)) 1048576) * a0_2))), t735))) else (if a0_3 = 4 then (sched_point.j0 k a1 (wrap64 ((wrap64 ((mn (mx a2 (-1048576)) 1048576) * a0_2)) * 12)) a0_0 a0_1 a0_2 a0_3 a0_4 a0_5 a0_6 a0_7 a0_8 l0_9) else (sched_point.j0 k a1 (wrap64 ((mn (mx a2 (-1048576)) 1048576) * a0_2)) a0_0 a0_1 a0_2 a0_3 a0_4 a0_5 a0_6 a0_7 a0_8 l0_9)))
theorem sched_point.mono_l : ∀ k, (∀ y0 y1 y2 y3 y4 y5 y6 y7 y8 y9 y10 y11, LeO (sched_point.j0 k y0 y1 y2 y3 y4 y5 y6 y7 y8 y9 y10 y11) (sched_point.j0 (k + 1) y0 y1 y2 y3 y4 y5 y6 y7 y8 y9 y10 y11))
 | 0 => fun _ _ _ _ _ _ _ _ _ _ _ _ r h => by simp [sched_point.j0] at h
 | k + 1 => by
  have ih0 := sched_point.mono_l k
  ·
   intro y0 y1 y2 y3 y4 y5 y6 y7 y8 y9 y10 y11
   unfold sched_point.j0
   have m0 := @date_Civil.mono
   have m1 := @date_Months.mono
   have m2 := @date_Of.mono
   have m3 := @date_Third.mono
   exact mL
theorem sched_point.mono : ∀ a0 a1 a2 a3 a4 a5 a6 a7 a8 a9 a10 a11 k, LeO (sched_point.f k a0 a1 a2 a3 a4 a5 a6 a7 a8 a9 a10 a11) (sched_point.f (k + 1) a0 a1 a2 a3 a4 a5 a6 a7 a8 a9 a10 a11) := by
 intro a0 a1 a2 a3 a4 a5 a6 a7 a8 a9 a10 a11 k
 have ih0 := sched_point.mono_l k
 unfold sched_point.f
 have m0 := @date_Civil.mono
 have m1 := @date_Months.mono
 have m2 := @date_Of.mono
 have m3 := @date_Third.mono
 exact mL
set_option maxHeartbeats 8000000 in
set_option maxRecDepth 100000 in
theorem sched_point.calls (k : Nat) (a0_0 a0_1 a0_2 a0_3 a0_4 a0_5 a0_6 a0_7 a0_8 : Int) (A0_9 : Option Addr) (c0_9 : Nat) (l0_9 : List (S63)) (a1 a2 r1 : Int) (r2 : Bool) (w : World) (hr0_9 : Kd.C k63 w A0_9 l0_9.length l0_9) (hc0_9 : l0_9.length ≤ c0_9) (h : sched_point.f k a0_0 a0_1 a0_2 a0_3 a0_4 a0_5 a0_6 a0_7 a0_8 l0_9 a1 a2 = some (r1, r2)) :
  Calls Try.prog 88 #[.agg #[.int .i64 a0_0, .int .i64 a0_1, .int .i64 a0_2, .int .i64 a0_3, .int .i64 a0_4, .int .i64 a0_5, .int .i64 a0_6, .int .i64 a0_7, .int .i64 a0_8, .slice A0_9 l0_9.length c0_9], .int .i64 a1, .int .i64 a2] w fun e w' => e = .returned (.tuple #[.int .i64 r1, .bool r2]) ∧ Below w.heap.size w w' := by
 have hu66 := Try.underlying66;have HR0_9 := Aside0.mk hr0_9;have HC0_9 := Aside0.mk hc0_9;clear hr0_9 hc0_9
 have HB := Aside0.mk (Below.refl w.heap.size w)
 have H : (if a0_3 = 2 then ((sched_is.f (wrap64 (a1 + (wrap64 ((wrap64 ((mn (mx a2 (-1048576)) 1048576) * a0_2)) * 7))))).bind fun t734 => (some (wrap64 (a1 + (wrap64 ((wrap64 ((mn (mx a2 (-1048576)) 1048576) * a0_2)) * 7))), t734))) else (if a0_3 = 1 then ((sched_is.f (wrap64 (a1 + (wrap64 ((mn (mx a2 (-1048576)) 1048576) * a0_2))))).bind fun t735 => (some (wrap64 (a1 + (wrap64 ((mn (mx a2 (-1048576)) 1048576) * a0_2))), t735))) else (if a0_3 = 4 then (sched_point.j0 k a1 (wrap64 ((wrap64 ((mn (mx a2 (-1048576)) 1048576) * a0_2)) * 12)) a0_0 a0_1 a0_2 a0_3 a0_4 a0_5 a0_6 a0_7 a0_8 l0_9) else (sched_point.j0 k a1 (wrap64 ((mn (mx a2 (-1048576)) 1048576) * a0_2)) a0_0 a0_1 a0_2 a0_3 a0_4 a0_5 a0_6 a0_7 a0_8 l0_9)))) = some (r1, r2) := h
 clear h
 obtain ⟨ji4, hji4⟩ : ∃ j_ : Int, (mx a2 (-1048576)) = j_ := ⟨_, rfl⟩
 replace H : (if a0_3 = 2 then ((sched_is.f (wrap64 (a1 + (wrap64 ((wrap64 ((mn (ji4) 1048576) * a0_2)) * 7))))).bind fun t734 => (some (wrap64 (a1 + (wrap64 ((wrap64 ((mn (ji4) 1048576) * a0_2)) * 7))), t734))) else (if a0_3 = 1 then ((sched_is.f (wrap64 (a1 + (wrap64 ((mn (ji4) 1048576) * a0_2))))).bind fun t735 => (some (wrap64 (a1 + (wrap64 ((mn (ji4) 1048576) * a0_2))), t735))) else (if a0_3 = 4 then (sched_point.j0 k a1 (wrap64 ((wrap64 ((mn (ji4) 1048576) * a0_2)) * 12)) a0_0 a0_1 a0_2 a0_3 a0_4 a0_5 a0_6 a0_7 a0_8 l0_9) else (sched_point.j0 k a1 (wrap64 ((mn (ji4) 1048576) * a0_2)) a0_0 a0_1 a0_2 a0_3 a0_4 a0_5 a0_6 a0_7 a0_8 l0_9)))) = some (r1, r2) := by first | (rw [hji4] at H; exact H) | (simp only [hji4] at H ⊢; exact H)
 have hji4_ : (if a2 < (-1048576) then (-1048576) else a2) = ji4 := hji4
 obtain ⟨ji5, hji5⟩ : ∃ j_ : Int, (mn (ji4) 1048576) = j_ := ⟨_, rfl⟩
 replace H : (if a0_3 = 2 then ((sched_is.f (wrap64 (a1 + (wrap64 ((wrap64 ((ji5) * a0_2)) * 7))))).bind fun t734 => (some (wrap64 (a1 + (wrap64 ((wrap64 ((ji5) * a0_2)) * 7))), t734))) else (if a0_3 = 1 then ((sched_is.f (wrap64 (a1 + (wrap64 ((ji5) * a0_2))))).bind fun t735 => (some (wrap64 (a1 + (wrap64 ((ji5) * a0_2))), t735))) else (if a0_3 = 4 then (sched_point.j0 k a1 (wrap64 ((wrap64 ((ji5) * a0_2)) * 12)) a0_0 a0_1 a0_2 a0_3 a0_4 a0_5 a0_6 a0_7 a0_8 l0_9) else (sched_point.j0 k a1 (wrap64 ((ji5) * a0_2)) a0_0 a0_1 a0_2 a0_3 a0_4 a0_5 a0_6 a0_7 a0_8 l0_9)))) = some (r1, r2) := by first | (rw [hji5] at H; exact H) | (simp only [hji5] at H ⊢; exact H)
 have hji5_ : (if 1048576 < (ji4) then 1048576 else (ji4)) = ji5 := hji5
 have HC6 := Aside0.mk H;clear H
 go_enter Try.func88, Try.ntmps88
 go_upto_block 0 with (first | ((with_reducible refine gate_dst (N := 3) rfl ?_); refine box_event ?hg (N := 3) ?hd (cs := #[.int .i64 a0_0, .int .i64 a0_1, .int .i64 a0_2, .int .i64 a0_3, .int .i64 a0_4, .int .i64 a0_5, .int .i64 a0_6, .int .i64 a0_7, .int .i64 a0_8, .slice A0_9 l0_9.length c0_9]) (t := 66) ?hr ?_; (case hd => rfl); (case hg => rfl); (case hr => first | (go_simp; done) | (go_simp; rfl)); intro gb733 hg w7 hbox hb; have BK733 := Aside0.mk (hbox); have GW733 := bG hg; have GE733 := bG hg; replace HB := bS hb; clear hb hbox hg; obtain ⟨_,_,_,_,_,_,_,_,_,_,_,_,_,_,_,_,_,_,_,_⟩ := blk10 BK733))
 (try simp only [Act.put, List.setIfInBounds_toArray, List.set_cons_zero, List.set_cons_succ])
 go_cut [2] (fun v2 wc => ∃ (kq : Nat) (x2_5 : Int), v2 = .int .i64 x2_5 ∧ Aside0 (sched_point.j0 kq a1 x2_5 a0_0 a0_1 a0_2 a0_3 a0_4 a0_5 a0_6 a0_7 a0_8 l0_9 = some (r1, r2)) ∧ Aside0 (kq ≤ k) ∧ Aside0 (wc.heap[gb733]? = some (.cells #[.int .i64 a0_0, .int .i64 a0_1, .int .i64 a0_2, .int .i64 a0_3, .int .i64 a0_4, .int .i64 a0_5, .int .i64 a0_6, .int .i64 a0_7, .int .i64 a0_8, (.slice A0_9 l0_9.length c0_9)] 66 (0, 0))) ∧ Aside0 (Below w.heap.size w wc))
 case first =>
  have H := HC6.out;clear HC6
  by_cases c9 : a0_3 = 2
  ·
   rw [if_pos c9] at H
   have c9b0 : (a0_3 == 2) = true := beq_iff_eq.mpr c9
   have c9b1 : (a0_3 != 2) = false := bne_eq_false_iff_eq.mpr c9
   clear c9
   (first | rw [c9b0] | (simp only [i64_w, i32_w]; rw [c9b0]) | skip)
   replace H := Option.bind_eq_some_iff.mp H
   obtain ⟨t734, A100, H⟩ := H
   replace H : (some (wrap64 (a1 + (wrap64 ((wrap64 ((ji5) * a0_2)) * 7))), t734)) = some (r1, r2) := H
   have A10 := Aside0.mk A100;clear A100
   simp only [Option.some.injEq, Prod.mk.injEq] at H
   obtain ⟨rfl, rfl⟩ := H
   go_wp2_with (first | ((with_reducible refine gate_callee (f := 90) rfl ?_); refine goesL_ (some 38) rfl rfl Try.func90 (by kernel_rfl) rfl #[.int .i64 (wrap64 (a1 + (wrap64 ((wrap64 ((ji5) * a0_2)) * 7))))] rfl (by (try simp only [List.map_toArray, List.map_cons, List.map_nil]); first | done | (simp only [hji5]; rfl) | rfl | (simp only [List.length_drop, List.length_take]; rfl)) ?_; (with_reducible refine (sched_is.calls (wrap64 (a1 + (wrap64 ((wrap64 ((ji5) * a0_2)) * 7)))) t734 _ A10.out).mono ?_); rintro e w' ⟨rfl, ⟨nd, rfl⟩⟩; refine ⟨_, rfl, ?_⟩))
   go_ret2
   exact ⟨by first | rfl | (simp [errW_none, errW_some] <;> rfl) | (simp only [← hji4, ← hji5]; first | rfl | (simp [errW_none, errW_some] <;> rfl)) | (simp [*, errW_none, errW_some] <;> rfl), bB⟩
  ·
   rw [if_neg c9] at H
   have c9b0 : (a0_3 == 2) = false := beq_eq_false_iff_ne.mpr c9
   have c9b1 : (a0_3 != 2) = true := bne_iff_ne.mpr c9
   (first | rw [c9b0] | (simp only [i64_w, i32_w]; rw [c9b0]) | skip)
   by_cases c11 : a0_3 = 1
   ·
    rw [if_pos c11] at H
    have c11b0 : (a0_3 == 1) = true := beq_iff_eq.mpr c11
    have c11b1 : (a0_3 != 1) = false := bne_eq_false_iff_eq.mpr c11
    clear c11;replace H := Option.bind_eq_some_iff.mp H
    obtain ⟨t735, A120, H⟩ := H
    replace H : (some (wrap64 (a1 + (wrap64 ((ji5) * a0_2))), t735)) = some (r1, r2) := H
    have A12 := Aside0.mk A120;clear A120
    simp only [Option.some.injEq, Prod.mk.injEq] at H
    obtain ⟨rfl, rfl⟩ := H
    go_wp2_with (first | ((with_reducible refine gate_callee (f := 90) rfl ?_); refine goesL_ (some 38) rfl rfl Try.func90 (by kernel_rfl) rfl #[.int .i64 (wrap64 (a1 + (wrap64 ((ji5) * a0_2))))] rfl (by (try simp only [List.map_toArray, List.map_cons, List.map_nil]); first | done | (simp only [hji5]; rfl) | rfl | (simp only [List.length_drop, List.length_take]; rfl)) ?_; (with_reducible refine (sched_is.calls (wrap64 (a1 + (wrap64 ((ji5) * a0_2)))) t735 _ A12.out).mono ?_); rintro e w' ⟨rfl, ⟨nd, rfl⟩⟩; refine ⟨_, rfl, ?_⟩))
    go_ret2
    exact ⟨by first | rfl | (simp [errW_none, errW_some] <;> rfl) | (simp only [← hji4, ← hji5]; first | rfl | (simp [errW_none, errW_some] <;> rfl)) | (simp [*, errW_none, errW_some] <;> rfl), bB⟩
   ·
    rw [if_neg c11] at H
    have c11b0 : (a0_3 == 1) = false := beq_eq_false_iff_ne.mpr c11
    have c11b1 : (a0_3 != 1) = true := bne_iff_ne.mpr c11
    by_cases c13 : a0_3 = 4
    ·
     rw [if_pos c13] at H
     have c13b0 : (a0_3 == 4) = true := beq_iff_eq.mpr c13
     have c13b1 : (a0_3 != 4) = false := bne_eq_false_iff_eq.mpr c13
     clear c13;have H' := Aside0.mk H;clear H
     go_wp2
     go_meet
     case rel => exact ⟨_, (wrap64 ((wrap64 ((ji5) * a0_2)) * 12)), (by first | rfl | (simp; done) | (simp only [← hji5] <;> (first | rfl | simp)) | (simp [*]; done)), H', ⟨eN⟩, ⟨(bk BK733)⟩, ⟨bB⟩⟩
    ·
     rw [if_neg c13] at H
     have c13b0 : (a0_3 == 4) = false := beq_eq_false_iff_ne.mpr c13
     have c13b1 : (a0_3 != 4) = true := bne_iff_ne.mpr c13
     have H' := Aside0.mk H;clear H
     go_wp2
     go_meet
     case rel => exact ⟨_, (wrap64 ((ji5) * a0_2)), (by first | rfl | (simp; done) | (simp only [← hji5] <;> (first | rfl | simp)) | (simp [*]; done)), H', ⟨eN⟩, ⟨(bk BK733)⟩, ⟨bB⟩⟩
 case rest =>
  clear HC6
  obtain ⟨kq, x2_5, rfl, HA, HJ5, BK733, HB⟩ := hcut
  cases kq with
  | zero => exact absurd HA.out (by simp [sched_point.j0])
  | succ kj5 =>
   have H := HA.out;clear HA
   simp only [sched_point.j0] at H
   replace H := Option.bind_eq_some_iff.mp H
   obtain ⟨⟨t736, t737⟩, A140, H⟩ := H
   replace H : (if t737 = 0 then ((date_Civil.f kj5 t736).bind fun bt738 => (if a0_5 = 1 then ((date_Length.f bt738.1 bt738.2.1).bind fun bt742 => ((date_Of.f kj5 bt738.1 bt738.2.1 bt742.1).bind fun bt744 => (some (bt744.1, true)))) else (if a0_5 = 2 then ((date_Third.f kj5 bt738.1 bt738.2.1).bind fun bt746 => (some (bt746.1, true))) else (some (t736, true))))) else (some (0, false))) = some (r1, r2) := H
   have A14 := Aside0.mk A140;clear A140
   by_cases c15 : t737 = 0
   ·
    rw [if_pos c15] at H
    have c15b0 : (t737 == 0) = true := beq_iff_eq.mpr c15
    have c15b1 : (t737 != 0) = false := bne_eq_false_iff_eq.mpr c15
    clear c15;replace H := Option.bind_eq_some_iff.mp H
    obtain ⟨⟨t738, t739, t740, t741⟩, A160, H⟩ := H
    replace H : (if a0_5 = 1 then ((date_Length.f t738 t739).bind fun bt742 => ((date_Of.f kj5 t738 t739 bt742.1).bind fun bt744 => (some (bt744.1, true)))) else (if a0_5 = 2 then ((date_Third.f kj5 t738 t739).bind fun bt746 => (some (bt746.1, true))) else (some (t736, true)))) = some (r1, r2) := H
    have A16 := Aside0.mk A160;clear A160
    by_cases c17 : a0_5 = 1
    ·
     rw [if_pos c17] at H
     have c17b0 : (a0_5 == 1) = true := beq_iff_eq.mpr c17
     have c17b1 : (a0_5 != 1) = false := bne_eq_false_iff_eq.mpr c17
     clear c17;replace H := Option.bind_eq_some_iff.mp H
     obtain ⟨⟨t742, t743⟩, A180, H⟩ := H
     replace H : ((date_Of.f kj5 t738 t739 t742).bind fun bt744 => (some (bt744.1, true))) = some (r1, r2) := H
     have A18 := Aside0.mk A180;clear A180;replace H := Option.bind_eq_some_iff.mp H
     obtain ⟨⟨t744, t745⟩, A190, H⟩ := H
     replace H : (some (t744, true)) = some (r1, r2) := H
     have A19 := Aside0.mk A190;clear A190
     simp only [Option.some.injEq, Prod.mk.injEq] at H
     obtain ⟨rfl, rfl⟩ := H
     go_wp2_with (first | ((with_reducible refine gG 112 ?_); refine goA (some 44) Try.func112 #[.int .i64 a1, .int .i64 x2_5, .bool false] ?_; (with_reducible refine (date_Months.calls kj5 a1 x2_5 false t736 t737 _ A14.out).mono ?_); rintro e w' ⟨rfl, ⟨nd, rfl⟩⟩; refine ⟨_, rfl, ?_⟩) | ((with_reducible refine gG 93 ?_); refine goA (some 51) Try.func93 #[.int .i64 t736] ?_; (with_reducible refine (date_Civil.calls kj5 t736 t738 t739 t740 t741 _ A16.out).mono ?_); rintro e w' ⟨rfl, ⟨nd, rfl⟩⟩; refine ⟨_, rfl, ?_⟩; obtain ⟨_,_,_,_,_,_,_,_,_,_,_,_,_,_,_,_,_,_,_,_⟩ := blk10 BK733) | ((with_reducible refine gG 113 ?_); refine goA (some 63) Try.func113 #[.int .i64 t738, .int .i64 t739] ?_; (with_reducible refine (date_Length.calls t738 t739 t742 t743 _ A18.out).mono ?_); rintro e w' ⟨rfl, ⟨nd, rfl⟩⟩; refine ⟨_, rfl, ?_⟩) | ((with_reducible refine gG 95 ?_); refine goA (some 70) Try.func95 #[.int .i64 t738, .int .i64 t739, .int .i64 t742] ?_; (with_reducible refine (date_Of.calls kj5 t738 t739 t742 t744 t745 _ A19.out).mono ?_); rintro e w' ⟨rfl, ⟨nd, rfl⟩⟩; refine ⟨_, rfl, ?_⟩))
     go_ret2
     exact ⟨by first | rfl | (simp [errW_none, errW_some] <;> rfl) | (simp only [← hji4, ← hji5]; first | rfl | (simp [errW_none, errW_some] <;> rfl)) | (simp [*, errW_none, errW_some] <;> rfl), bB⟩
    ·
     rw [if_neg c17] at H
     have c17b0 : (a0_5 == 1) = false := beq_eq_false_iff_ne.mpr c17
     have c17b1 : (a0_5 != 1) = true := bne_iff_ne.mpr c17
     by_cases c21 : a0_5 = 2
     ·
      rw [if_pos c21] at H
      have c21b0 : (a0_5 == 2) = true := beq_iff_eq.mpr c21
      have c21b1 : (a0_5 != 2) = false := bne_eq_false_iff_eq.mpr c21
      clear c21;replace H := Option.bind_eq_some_iff.mp H
      obtain ⟨⟨t746, t747⟩, A220, H⟩ := H
      replace H : (some (t746, true)) = some (r1, r2) := H
      have A22 := Aside0.mk A220;clear A220
      simp only [Option.some.injEq, Prod.mk.injEq] at H
      obtain ⟨rfl, rfl⟩ := H
      go_wp2_with (first | ((with_reducible refine gG 112 ?_); refine goA (some 44) Try.func112 #[.int .i64 a1, .int .i64 x2_5, .bool false] ?_; (with_reducible refine (date_Months.calls kj5 a1 x2_5 false t736 t737 _ A14.out).mono ?_); rintro e w' ⟨rfl, ⟨nd, rfl⟩⟩; refine ⟨_, rfl, ?_⟩) | ((with_reducible refine gG 93 ?_); refine goA (some 51) Try.func93 #[.int .i64 t736] ?_; (with_reducible refine (date_Civil.calls kj5 t736 t738 t739 t740 t741 _ A16.out).mono ?_); rintro e w' ⟨rfl, ⟨nd, rfl⟩⟩; refine ⟨_, rfl, ?_⟩; obtain ⟨_,_,_,_,_,_,_,_,_,_,_,_,_,_,_,_,_,_,_,_⟩ := blk10 BK733) | ((with_reducible refine gG 114 ?_); refine goA (some 78) Try.func114 #[.int .i64 t738, .int .i64 t739] ?_; (with_reducible refine (date_Third.calls kj5 t738 t739 t746 t747 _ A22.out).mono ?_); rintro e w' ⟨rfl, ⟨nd, rfl⟩⟩; refine ⟨_, rfl, ?_⟩))
      go_ret2
      exact ⟨by first | rfl | (simp [errW_none, errW_some] <;> rfl) | (simp only [← hji4, ← hji5]; first | rfl | (simp [errW_none, errW_some] <;> rfl)) | (simp [*, errW_none, errW_some] <;> rfl), bB⟩
     ·
      rw [if_neg c21] at H
      have c21b0 : (a0_5 == 2) = false := beq_eq_false_iff_ne.mpr c21
      have c21b1 : (a0_5 != 2) = true := bne_iff_ne.mpr c21
      simp only [Option.some.injEq, Prod.mk.injEq] at H
      obtain ⟨rfl, rfl⟩ := H
      go_wp2_with (first | ((with_reducible refine gG 112 ?_); refine goA (some 44) Try.func112 #[.int .i64 a1, .int .i64 x2_5, .bool false] ?_; (with_reducible refine (date_Months.calls kj5 a1 x2_5 false t736 t737 _ A14.out).mono ?_); rintro e w' ⟨rfl, ⟨nd, rfl⟩⟩; refine ⟨_, rfl, ?_⟩) | ((with_reducible refine gG 93 ?_); refine goA (some 51) Try.func93 #[.int .i64 t736] ?_; (with_reducible refine (date_Civil.calls kj5 t736 t738 t739 t740 t741 _ A16.out).mono ?_); rintro e w' ⟨rfl, ⟨nd, rfl⟩⟩; refine ⟨_, rfl, ?_⟩; obtain ⟨_,_,_,_,_,_,_,_,_,_,_,_,_,_,_,_,_,_,_,_⟩ := blk10 BK733))
      go_ret2
      exact ⟨by first | rfl | (simp [errW_none, errW_some] <;> rfl) | (simp only [← hji4, ← hji5]; first | rfl | (simp [errW_none, errW_some] <;> rfl)) | (simp [*, errW_none, errW_some] <;> rfl), bB⟩
   ·
    rw [if_neg c15] at H
    have c15b0 : (t737 == 0) = false := beq_eq_false_iff_ne.mpr c15
    have c15b1 : (t737 != 0) = true := bne_iff_ne.mpr c15
    simp only [Option.some.injEq, Prod.mk.injEq] at H
    obtain ⟨rfl, rfl⟩ := H
    go_wp2_with (first | ((with_reducible refine gG 112 ?_); refine goA (some 44) Try.func112 #[.int .i64 a1, .int .i64 x2_5, .bool false] ?_; (with_reducible refine (date_Months.calls kj5 a1 x2_5 false t736 t737 _ A14.out).mono ?_); rintro e w' ⟨rfl, ⟨nd, rfl⟩⟩; refine ⟨_, rfl, ?_⟩))
    go_ret2
    exact ⟨by first | rfl | (simp [errW_none, errW_some] <;> rfl) | (simp only [← hji4, ← hji5]; first | rfl | (simp [errW_none, errW_some] <;> rfl)) | (simp [*, errW_none, errW_some] <;> rfl), bB⟩
end Go.Proofs.Ytoncignjcgjhhaa.Q
namespace Go.Proofs.Ytoncignjcgjhhaa.S
open Go.RowKit Go.Proofs.YtoncignjcgjhhaaW.PrintWords Go.Proofs.YtoncignjcgjhhaaW.PrintLast Go.Proofs.YtoncignjcgjhhaaW.PrintMore
open Go.Proofs.Ytoncignjcgjhhaa.Q
open Go.Proofs.Ytoncignjcgjhhaa.L (w64 td tm tm0)
structure Sp where
 a : Int
 b : Int
 n : Int
 u : Int
 st : Int
 ro : Int
 cv : Int
 lag : Int
 we : Int
 l : List S63
def Sp.days (s : Sp) : Prop := (0 ≤ s.a ∧ s.a ≤ 109572) ∧ 0 ≤ s.b ∧ s.b ≤ 109572
def Sp.fit (s : Sp) : Prop := s.a < s.b ∧ (1 ≤ s.n ∧ s.n ≤ 1200) ∧ (1 ≤ s.u ∧ s.u ≤ 4) ∧ (1 ≤ s.st ∧ s.st ≤ 4) ∧ (0 ≤ s.ro ∧ s.ro ≤ 2) ∧ (s.ro = 0 ∨ 3 ≤ s.u) ∧ (0 ≤ s.cv ∧ s.cv ≤ 4) ∧ (0 ≤ s.lag ∧ s.lag ≤ 30)
def ck (we : Int) (l : List S63) : Int := (M.chk we (l.map H.ru)).1
open Classical in
noncomputable def Sp.chk (s : Sp) : Int := if s.days then (if s.fit then ck s.we s.l else 80) else 51
theorem sin (a b c : Int) : sched_within.f a b c = some (decide (b ≤ a ∧ a ≤ c)) := by
 unfold sched_within.f
 by_cases h : a ≥ b
 ·
  rw [if_pos h]; simp [h]
 ·
  rw [if_neg h]; simp; omega
theorem sis (n : Int) : sched_is.f n = some (decide (0 ≤ n ∧ n ≤ 109572)) := by
 unfold sched_is.f
 by_cases h : n ≥ 0
 ·
  rw [if_pos h]; simp [h]
 ·
  rw [if_neg h]; simp; omega
theorem cCheck {l : List S63} (hw : wfL l) (we : Int) : cal_Check.f we l = some (M.chk we (l.map H.ru)) := if_pos hw
theorem ev_ite {α : Type} {p : Prop} [Decidable p] {g h : Nat → Option α} {r : α} (h1 : p → Ev g r) (h2 : ¬ p → Ev h r) : Ev (fun q => if p then g q else h q) r := by
 by_cases hp : p
 ·
  exact Ev.congr (fun q => if_pos hp) (h1 hp)
 ·
  exact Ev.congr (fun q => if_neg hp) (h2 hp)
theorem ev_dec {α : Type} {p : Prop} [Decidable p] {g h : Nat → Option α} {r : α} (h1 : p → Ev g r) (h2 : ¬ p → Ev h r) : Ev (fun q => if decide p = true then g q else h q) r :=
  ev_ite (fun e => h1 (of_decide_eq_true e)) (fun e => h2 (fun hp => e (decide_eq_true hp)))
theorem chk_days {s : Sp} (h : ¬ s.days) : s.chk = 51 := by unfold Sp.chk; rw [if_neg h]
theorem chk_unfit {s : Sp} (h : s.days) (h2 : ¬ s.fit) : s.chk = 80 := by unfold Sp.chk; rw [if_pos h, if_neg h2]
theorem chk_fit {s : Sp} (h : s.days) (h2 : s.fit) : s.chk = ck s.we s.l := by unfold Sp.chk; rw [if_pos h, if_pos h2]
theorem sCheck (s : Sp) (hw : wfL s.l) : Ev (fun k => sched_Check.f k s.a s.b s.n s.u s.st s.ro s.cv s.lag s.we s.l) s.chk := by
 refine Ev.congr (fun k => by unfold sched_Check.f; rw [sis, Option.bind_some, sis, Option.bind_some]) ?_
 have ht : ¬ s.days → Ev (fun k => sched_Check.j0 k true s.a s.b s.n s.u s.st s.ro s.cv s.lag s.we s.l) s.chk := fun h => by
  rw [chk_days h]
  exact Ev.step (f := fun _ => some (51 : Int)) (fun k => by rw [sched_Check.j0, if_pos rfl]) (Ev.now _)
 refine ev_dec (fun ha => ?_) (fun ha => ht (fun h => ha h.1))
 by_cases hb : 0 ≤ s.b ∧ s.b ≤ 109572
 ·
  have hd : s.days := ⟨ha, hb⟩
  have h80 : ∀ {α : Type} (_ : ¬ s.fit), Ev (fun _ : Nat => some (80 : Int)) s.chk := fun h => by rw [chk_unfit hd h]; exact Ev.now _
  refine Ev.congr (fun k => by rw [decide_eq_true hb]) ?_
  refine Ev.step (fun k => by rw [Bool.not_true, sched_Check.j0, if_neg (by decide), sin, sin, sin, sin, Option.bind_some, Option.bind_some, Option.bind_some, Option.bind_some]) ?_
  have hj1 : ∀ x : Bool, (x = true → ¬ s.fit) → (x = false → (s.cv < 0 ∨ 4 < s.cv ∨ s.lag < 0 ∨ 30 < s.lag) ∨ s.fit) → Ev (fun k => sched_Check.j1 k x s.a s.b s.n s.u s.st s.ro s.cv s.lag s.we s.l) s.chk := by
   intro x h1 h2
   refine Ev.step (fun k => by rw [sched_Check.j1, sin, sin, Option.bind_some, Option.bind_some, cCheck hw, Option.bind_some]) ?_
   refine ev_ite (fun e => h80 (α := Unit) (h1 e)) (fun e => ?_)
   have h3 := h2 (Bool.eq_false_iff.2 e)
   refine ev_dec (fun e1 => ev_dec (fun e2 => ?_) (fun e2 => h80 (α := Unit) (fun h => e2 h.2.2.2.2.2.2.2))) (fun e1 => h80 (α := Unit) (fun h => e1 h.2.2.2.2.2.2.1))
   rw [chk_fit hd (h3.elim (fun h => by omega) id)]
   exact Ev.now _
  refine ev_ite (fun c1 => h80 (α := Unit) (fun h => by have := h.1; omega)) (fun c1 => ?_)
  refine ev_dec (fun c2 => ?_) (fun c2 => h80 (α := Unit) (fun h => c2 h.2.1))
  refine ev_dec (fun c3 => ?_) (fun c3 => h80 (α := Unit) (fun h => c3 h.2.2.1))
  refine ev_dec (fun c4 => ?_) (fun c4 => h80 (α := Unit) (fun h => c4 h.2.2.2.1))
  refine ev_dec (fun c5 => ?_) (fun c5 => h80 (α := Unit) (fun h => c5 h.2.2.2.2.1))
  refine ev_ite (fun c6 => hj1 false (fun h => absurd h (by decide)) (fun _ => ?_)) (fun c6 => hj1 _ (fun h => ?_) (fun h => ?_))
  ·
   by_cases hc : 0 ≤ s.cv ∧ s.cv ≤ 4 ∧ 0 ≤ s.lag ∧ s.lag ≤ 30
   ·
    exact .inr ⟨by omega, c2, c3, c4, c5, .inl c6, by omega, by omega⟩
   ·
    exact .inl (by omega)
  ·
   have := of_decide_eq_true h
   intro hf; have h6 := hf.2.2.2.2.2.1; omega
  ·
   have := of_decide_eq_false h
   by_cases hc : 0 ≤ s.cv ∧ s.cv ≤ 4 ∧ 0 ≤ s.lag ∧ s.lag ≤ 30
   ·
    exact .inr ⟨by omega, c2, c3, c4, c5, .inr (by omega), by omega, by omega⟩
   ·
    exact .inl (by omega)
 ·
  exact Ev.congr (fun k => by rw [decide_eq_false hb]; rfl) (ht (fun h => hb h.2))
end Go.Proofs.Ytoncignjcgjhhaa.S
namespace Go.Proofs.Ytoncignjcgjhhaa.S
open Go.RowKit Go.Proofs.YtoncignjcgjhhaaW.PrintWords Go.Proofs.YtoncignjcgjhhaaW.PrintLast Go.Proofs.YtoncignjcgjhhaaW.PrintMore
open Go.Proofs.Ytoncignjcgjhhaa.Q
open Go.Proofs.Ytoncignjcgjhhaa.L (w64 td tm tm0)
def rolled (ro x m : Int) : Int :=
 if ro = 0 then M.dayOf (M.mAt x m / 12) (M.mAt x m % 12 + 1) (M.monthsDay x m false)
 else if ro = 1 then M.dayOf (M.mAt x m / 12) (M.mAt x m % 12 + 1) (M.mlen (M.mAt x m / 12) (M.mAt x m % 12 + 1))
 else M.third (M.mAt x m / 12) (M.mAt x m % 12 + 1)
def asDay (n : Int) : Option Int := if 0 ≤ n ∧ n ≤ 109572 then some n else none
def Sp.mons (s : Sp) (k : Int) : Int := if s.u = 4 then 12 * (k * s.n) else k * s.n
def Sp.pt (s : Sp) (x k : Int) : Option Int :=
 if k < -200000 ∨ 200000 < k then none
 else if s.u = 2 then asDay (x + 7 * (k * s.n)) else if s.u = 1 then asDay (x + k * s.n)
 else if M.monthsOk x (s.mons k) then some (rolled s.ro x (s.mons k)) else none
def Tells (p : Int × Bool) : Option Int → Prop
  | some v => p = (v, true)
  | none => p.2 = false
def told (o : Option Int) : Int × Bool := match o with | some v => (v, true) | none => (0, false)
theorem mul_rng {k n c : Int} (h0 : 0 ≤ c) (h1 : -c ≤ k) (h2 : k ≤ c) (n1 : 1 ≤ n) (n2 : n ≤ 1200) : -(c * 1200) ≤ k * n ∧ k * n ≤ c * 1200 := by
 have a := Int.mul_le_mul_of_nonneg_right h2 (show 0 ≤ n by omega)
 have b := Int.mul_le_mul_of_nonneg_left n2 h0
 have d := Int.mul_le_mul_of_nonneg_right h1 (show 0 ≤ n by omega)
 rw [Int.neg_mul] at d
 omega
theorem mul_far {k n : Int} (n1 : 1 ≤ n) : (0 ≤ k → k ≤ k * n) ∧ (k ≤ 0 → k * n ≤ k) := by
 refine ⟨fun h => ?_, fun h => ?_⟩
 ·
  have := Int.mul_le_mul_of_nonneg_left n1 h; omega
 ·
  have := Int.mul_le_mul_of_nonpos_left h n1; omega
theorem monthsOk_date {x m : Int} (hx : 0 ≤ x ∧ x ≤ 109572) (h : M.monthsOk x m) : ∃ n, n = M.dayOf (M.mAt x m / 12) (M.mAt x m % 12 + 1) (M.monthsDay x m false) ∧ (0 ≤ n ∧ n ≤ 109572) ∧ M.civY n = M.mAt x m / 12 ∧ M.civM n = M.mAt x m % 12 + 1 := by
 have hd := M.monthsDate false hx h;have hr := M.day_rng hd;have hc := M.civ_unique hd rfl
 exact ⟨_, rfl, ⟨hr.1, hr.2.1⟩, hc.1, hc.2.1⟩
theorem mlenDate {y m : Int} (h : 1900 ≤ y ∧ y ≤ 2199 ∧ 1 ≤ m ∧ m ≤ 12) : M.isDate y m (M.mlen y m) := by
  have := M.mlen_rng y m; unfold M.isDate; omega
theorem point_j0 (s : Sp) (x m : Int) (hx : 0 ≤ x ∧ x ≤ 109572) (hro : 0 ≤ s.ro ∧ s.ro ≤ 2) : Ev (fun q => sched_point.j0 q x m s.a s.b s.n s.u s.st s.ro s.cv s.lag s.we s.l) (told (if M.monthsOk x m then some (rolled s.ro x m) else none)) := by
 refine Ev.step (fun q => by rw [sched_point.j0]) (Ev.bind (L.Months x m false) ?_)
 unfold M.months
 rw [if_pos hx]
 by_cases h : M.monthsOk x m
 ·
  rw [if_pos h, if_pos h]
  refine Ev.congr (fun q => if_pos rfl) ?_
  obtain ⟨n, hn, hr, hy, hm⟩ := monthsOk_date hx h
  have hrng := M.mAt_rng h
  show Ev (fun q => (date_Civil.f q (M.dayOf (M.mAt x m / 12) (M.mAt x m % 12 + 1) (M.monthsDay x m false))).bind _) _
  rw [← hn]
  have hc := L.Civil n
  rw [if_pos hr, hy, hm] at hc
  refine Ev.bind hc ?_
  unfold rolled
  by_cases r1 : s.ro = 1
  ·
   rw [if_neg (show ¬ s.ro = 0 by omega), if_pos r1]
   refine Ev.congr (fun q => by rw [if_pos r1, L.Length, if_pos hrng, Option.bind_some]) ?_
   have ho := L.Of (M.mAt x m / 12) (M.mAt x m % 12 + 1) (M.mlen (M.mAt x m / 12) (M.mAt x m % 12 + 1))
   rw [if_pos (mlenDate hrng)] at ho
   exact Ev.bind ho (Ev.now _)
  ·
   by_cases r2 : s.ro = 2
   ·
    rw [if_neg (show ¬ s.ro = 0 by omega), if_neg r1]
    refine Ev.congr (fun q => by rw [if_neg r1, if_pos r2]) ?_
    have ho := L.Third (M.mAt x m / 12) (M.mAt x m % 12 + 1)
    rw [if_pos hrng] at ho
    exact Ev.bind ho (Ev.now _)
   ·
    rw [if_pos (show s.ro = 0 by omega)]
    refine Ev.congr (fun q => by rw [if_neg r1, if_neg r2]) ?_
    rw [hn]
    exact Ev.now _
 ·
  rw [if_neg h, if_neg h]
  exact Ev.congr (fun q => if_neg (by decide)) (Ev.now _)
theorem tells_day (n : Int) : Tells (n, decide (0 ≤ n ∧ n ≤ 109572)) (asDay n) := by
 unfold asDay
 by_cases h : 0 ≤ n ∧ n ≤ 109572
 ·
  rw [if_pos h, decide_eq_true h]; rfl
 ·
  rw [if_neg h, decide_eq_false h]; rfl
theorem tells_told (o : Option Int) : Tells (told o) o := by cases o <;> rfl
theorem sPoint (s : Sp) (x k : Int) (hx : 0 ≤ x ∧ x ≤ 109572) (hf : s.fit) : ∃ p, Ev (fun q => sched_point.f q s.a s.b s.n s.u s.st s.ro s.cv s.lag s.we s.l x k) p ∧ Tells p (s.pt x k) := by
 obtain ⟨_, hn, hu, _, hro, _⟩ := hf
 have hkk : ∃ kk : Int, mn (mx k (-1048576)) 1048576 = kk ∧ -1048576 ≤ kk ∧ kk ≤ 1048576 ∧ (¬ (k < -200000 ∨ 200000 < k) → kk = k) ∧ (k < -200000 → kk < -200000) ∧ (200000 < k → 200000 < kk) := by
  refine ⟨_, rfl, ?_, ?_, ?_, ?_, ?_⟩ <;> (unfold mn mx; omega)
 obtain ⟨kk, ekk, k1, k2, k3, k4, k5⟩ := hkk
 have hm := mul_rng (by omega) k1 k2 hn.1 hn.2
 have hfar := mul_far (k := kk) hn.1
 have e1 : wrap64 (kk * s.n) = kk * s.n := w64 (by omega) (by omega)
 have e7 : wrap64 (kk * s.n * 7) = kk * s.n * 7 := w64 (by omega) (by omega)
 have e12 : wrap64 (kk * s.n * 12) = kk * s.n * 12 := w64 (by omega) (by omega)
 have ex7 : wrap64 (x + kk * s.n * 7) = x + kk * s.n * 7 := w64 (by omega) (by omega)
 have ex1 : wrap64 (x + kk * s.n) = x + kk * s.n := w64 (by omega) (by omega)
 by_cases u2 : s.u = 2
 ·
  refine ⟨(x + kk * s.n * 7, decide (0 ≤ x + kk * s.n * 7 ∧ x + kk * s.n * 7 ≤ 109572)), Ev.congr (fun q => ?_) (Ev.now _), ?_⟩
  ·
   unfold sched_point.f; rw [if_pos u2, ekk, e1, e7, ex7, sis, Option.bind_some]
  ·
   unfold Sp.pt
   by_cases hk : k < -200000 ∨ 200000 < k
   ·
    rw [if_pos hk]
    show decide _ = false
    refine decide_eq_false (fun h => ?_)
    rcases hk with hk | hk
    ·
     have := k4 hk; have := hfar.2 (by omega); omega
    ·
     have := k5 hk; have := hfar.1 (by omega); omega
   ·
    rw [if_neg hk, if_pos u2, k3 hk, Int.mul_comm 7]
    exact tells_day _
 ·
  by_cases u1 : s.u = 1
  ·
   refine ⟨(x + kk * s.n, decide (0 ≤ x + kk * s.n ∧ x + kk * s.n ≤ 109572)), Ev.congr (fun q => ?_) (Ev.now _), ?_⟩
   ·
    unfold sched_point.f; rw [if_neg u2, if_pos u1, ekk, e1, ex1, sis, Option.bind_some]
   ·
    unfold Sp.pt
    by_cases hk : k < -200000 ∨ 200000 < k
    ·
     rw [if_pos hk]
     show decide _ = false
     refine decide_eq_false (fun h => ?_)
     rcases hk with hk | hk
     ·
      have := k4 hk; have := hfar.2 (by omega); omega
     ·
      have := k5 hk; have := hfar.1 (by omega); omega
    ·
     rw [if_neg hk, if_neg u2, if_pos u1, k3 hk]
     exact tells_day _
  ·
   have hpt : ∀ m, (m = if s.u = 4 then 12 * (kk * s.n) else kk * s.n) → Tells (told (if M.monthsOk x m then some (rolled s.ro x m) else none)) (s.pt x k) := by
    intro m em
    unfold Sp.pt
    by_cases hk : k < -200000 ∨ 200000 < k
    ·
     rw [if_pos hk, if_neg]
     ·
      rfl
     ·
      intro h
      have h1 := h.1; have h2 := h.2.1
      have hb : kk * s.n < -4000 ∨ 4000 < kk * s.n := by
       rcases hk with hk | hk
       ·
        have := k4 hk; have := hfar.2 (by omega); omega
       ·
        have := k5 hk; have := hfar.1 (by omega); omega
      by_cases u4 : s.u = 4
      ·
       rw [if_pos u4] at em; omega
      ·
       rw [if_neg u4] at em; omega
    ·
     rw [if_neg hk, if_neg u2, if_neg u1]
     have : m = s.mons k := by unfold Sp.mons; rw [em, k3 hk]
     rw [this]
     exact tells_told _
   by_cases u4 : s.u = 4
   ·
    refine ⟨_, Ev.congr (fun q => ?_) (point_j0 s x (kk * s.n * 12) hx hro), hpt _ (by rw [if_pos u4, Int.mul_comm 12])⟩
    unfold sched_point.f; rw [if_neg u2, if_neg u1, if_pos u4, ekk, e1, e12]
   ·
    refine ⟨_, Ev.congr (fun q => ?_) (point_j0 s x (kk * s.n) hx hro), hpt _ (by rw [if_neg u4])⟩
    unfold sched_point.f; rw [if_neg u2, if_neg u1, if_neg u4, ekk, e1]
end Go.Proofs.Ytoncignjcgjhhaa.S
namespace Go.Proofs.YtoncignjcgjhhaaW.PrintWords
open Go.RowKit
namespace Kd
section
variable {α : Type} {P : Program} {ops : Array Oper} {rest : List Oper} {o : Oper} {a : Act} {Q : Exit → Act → World → Prop}
theorem R_make0 (d : Kd α) {w0 W : World} (base e : Nat) (hgd : o.guard = none) {N : Tmp} (hd : o.dst = some N) (t : TypeId) (x y : Operand) (ho : o.op = .makeSlice t x y) (n : Int) (hx : a.eval x = .int .i64 0) (hy : a.eval y = .int .i64 n)
  (ht : P.underlying t = some (.slice e)) (z : Value) (bytes : Nat) (hinfo : (P.info? e).map (fun i => (i.zero, i.size, i.bytes)) = some (some z, d.sz, bytes)) (hz : z.cells.size = d.sz) (hs0 : 0 < d.sz) (hb0 : 0 < bytes)
  (z0 : α) {ok okp : Nat → Prop} (hzero : d.M W base okp z0 z.cells.toList) (hok : ∀ k, okp k → ok k) (hfresh : ok W.heap.size) (h0 : 0 ≤ n) (hl : n.toNat * bytes ≤ 281474976710656) (HB : Below base w0 W) (hbase : base ≤ W.heap.size)
  (h : ∀ v1 w1, d.R e w1 base ok v1 (List.replicate 0 z0) → Below base w0 w1 → W.grownBy w1 none → (∃ b, v1.ownBlock = some b ∧ W.heap.size ≤ b) → wpList P ops Q rest (a.put o.dst v1) w1) : wpList P ops Q (o :: rest) a W := by
 obtain ⟨m, rfl⟩ := Int.eq_ofNat_of_zero_le h0
 simp only [Int.toNat_natCast] at hl
 obtain ⟨i0, hi, hzz⟩ := Option.map_eq_some_iff.1 hinfo
 simp only [Prod.mk.injEq] at hzz
 obtain ⟨hz0, hz1, hz2⟩ := hzz
 have hm : m ≤ 281474976710656 := Nat.le_trans (Nat.le_mul_of_pos_right _ hb0) hl
 have hbs : (i0.bytes : Int) * (m : Int) ≤ 281474976710656 := by
  have h3 : ((i0.bytes * m : Nat) : Int) ≤ 281474976710656 := by rw [hz2, Nat.mul_comm]; omega
  rwa [Int.natCast_mul] at h3
 have hr := run_make (P := P) W t e i0 z ht hi hz0 .i64 .i64 0 (m : Int) (Int.le_refl _) (by omega) hbs (by omega)
 simp only [Int.toNat_natCast, Int.toNat_zero] at hr
 have hrun : (execOp a.eval o).run P W = .ok (.value (.slice (some ⟨W.heap.size, 0, none⟩) 0 m)) (W.alloc (.cells (madeCells z.cells (m * i0.size)) e)) := by
  simp [execOp, ho, hx, hy, hr]
 refine event_run hgd hrun (h _ _ ⟨fun k hk => ?_, [], ?_, Reps.none _ _⟩ (HB.alloc hbase _) (World.grownBy_alloc W _ none) ⟨W.heap.size, by simp [Value.ownBlock], Nat.le_refl _⟩)
 ·
  have : W.heap.size = k := by simpa [Value.ownBlock] using hk
  subst this
  exact hfresh
 ·
  rw [hz1]
  exact ⟨by simp, .inr ⟨W.heap.size, m, _, rfl, hbase, heap_alloc_new W _, Nat.zero_le _, by simp only [maxLen]; omega, size_madeCells _ _, by simp⟩⟩
end
end Kd
end Go.Proofs.YtoncignjcgjhhaaW.PrintWords
