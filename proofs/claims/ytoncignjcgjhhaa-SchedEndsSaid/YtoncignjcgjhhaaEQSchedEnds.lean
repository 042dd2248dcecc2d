/- Contracts of functions of the seat's program: each Go function's Lean function and its walk, written by a program of this session over the kit's print. Not trusted: Lean checks it. -/
import Derived.Test.YtoncignjcgjhhaaESLex
import Derived.Test.YtoncignjcgjhhaaEGA
import Derived.Test.YtoncignjcgjhhaaEGF
import Derived.Test.YtoncignjcgjhhaaEGI
import Derived.Test.YtoncignjcgjhhaaEGJ
set_option linter.unusedVariables false
set_option linter.unusedSimpArgs false
namespace Go.Proofs.Ytoncignjcgjhhaa.Q
open Go.RowKit Go.Proofs.YtoncignjcgjhhaaW.PrintWords Go.Proofs.YtoncignjcgjhhaaW.PrintLast Go.Proofs.YtoncignjcgjhhaaW.PrintMore
attribute [local go_sem] max2_int min2_int max_two min_two max_three min_three max_four min_four   -- for this text's walks alone
mutual
def tenorlaw8_SchedEnds.j0 : Nat → List Int → Bool → Int → Int → Int → Int → Int → Int → Int → Int → Int → List (S63) → Option (Bool)
  | 0, _, _, _, _, _, _, _, _, _, _, _, _ => none
  | k + 1, x3, x52, x890000, x890001, x890002, x890003, x890004, x890005, x890006, x890007, x890008, x890009 => if x52 = true then (some false) else (tenorlaw8_SchedEnds.l0 k x3 1 x890000 x890001 x890002 x890003 x890004 x890005 x890006 x890007 x890008 x890009)
def tenorlaw8_SchedEnds.l0 : Nat → List Int → Int → Int → Int → Int → Int → Int → Int → Int → Int → Int → List (S63) → Option (Bool)
  | 0, _, _, _, _, _, _, _, _, _, _, _, _ => none
  | k + 1, x3, x5, x890000, x890001, x890002, x890003, x890004, x890005, x890006, x890007, x890008, x890009 => if x5 < (x3.length : Int) then (if 0 ≤ x5 then (if 0 ≤ (wrap64 (x5 - 1)) then (if (wrap64 (x5 - 1)) < (x3.length : Int) then (if (rd x3 x5) ≤ (rd x3 (wrap64 (x5 - 1))) then (some false) else (tenorlaw8_SchedEnds.l0 k x3 (wrap64 (x5 + 1)) x890000 x890001 x890002 x890003 x890004 x890005 x890006 x890007 x890008 x890009)) else (none)) else (none)) else (none)) else ((sched_Periods.f k x890000 x890001 x890002 x890003 x890004 x890005 x890006 x890007 x890008 x890009).bind fun bt901 => (if bt901.2 = 0 then (if (bt901.1.length : Int) = (wrap64 ((x3.length : Int) - 1)) then (tenorlaw8_SchedEnds.l1 k x3 bt901.1 0 x890000 x890001 x890002 x890003 x890004 x890005 x890006 x890007 x890008 x890009) else (some false)) else (if bt901.2 = 51 then (if (bt901.1.length : Int) = 0 then ((tenorlaw8_awake.f k).bind fun t905 => (some t905)) else (some false)) else (some false))))
def tenorlaw8_SchedEnds.l1 : Nat → List Int → List (S81) → Int → Int → Int → Int → Int → Int → Int → Int → Int → Int → List (S63) → Option (Bool)
  | 0, _, _, _, _, _, _, _, _, _, _, _, _, _ => none
  | k + 1, x3, x6, x8, x890000, x890001, x890002, x890003, x890004, x890005, x890006, x890007, x890008, x890009 => if x8 < (x6.length : Int) then (if 0 ≤ x8 then (if x8 < (x3.length : Int) then (if ((rd_T81 x6 x8).f0) = (rd x3 x8) then (if 0 ≤ (wrap64 (x8 + 1)) then (if (wrap64 (x8 + 1)) < (x3.length : Int) then (if ((rd_T81 x6 x8).f1) = (rd x3 (wrap64 (x8 + 1))) then (if x8 > 0 then (if 0 ≤ (wrap64 (x8 - 1)) then (if (wrap64 (x8 - 1)) < (x6.length : Int) then (if ((rd_T81 x6 x8).f2) = ((rd_T81 x6 (wrap64 (x8 - 1))).f3) then (if ((rd_T81 x6 x8).f2) > ((rd_T81 x6 x8).f3) then (if x890006 = 0 then (some false) else (if x890007 = 0 then (if ((rd_T81 x6 x8).f4) = ((rd_T81 x6 x8).f3) then (if x890007 > 0 then (if ((rd_T81 x6 x8).f4) ≤ ((rd_T81 x6 x8).f3) then (some false) else (tenorlaw8_SchedEnds.l1 k x3 x6 (wrap64 (x8 + 1)) x890000 x890001 x890002 x890003 x890004 x890005 x890006 x890007 x890008 x890009)) else (tenorlaw8_SchedEnds.l1 k x3 x6 (wrap64 (x8 + 1)) x890000 x890001 x890002 x890003 x890004 x890005 x890006 x890007 x890008 x890009)) else (some false)) else (if x890007 > 0 then (if ((rd_T81 x6 x8).f4) ≤ ((rd_T81 x6 x8).f3) then (some false) else (tenorlaw8_SchedEnds.l1 k x3 x6 (wrap64 (x8 + 1)) x890000 x890001 x890002 x890003 x890004 x890005 x890006 x890007 x890008 x890009)) else (tenorlaw8_SchedEnds.l1 k x3 x6 (wrap64 (x8 + 1)) x890000 x890001 x890002 x890003 x890004 x890005 x890006 x890007 x890008 x890009)))) else (if x890007 = 0 then (if ((rd_T81 x6 x8).f4) = ((rd_T81 x6 x8).f3) then (if x890007 > 0 then (if ((rd_T81 x6 x8).f4) ≤ ((rd_T81 x6 x8).f3) then (some false) else (tenorlaw8_SchedEnds.l1 k x3 x6 (wrap64 (x8 + 1)) x890000 x890001 x890002 x890003 x890004 x890005 x890006 x890007 x890008 x890009)) else (tenorlaw8_SchedEnds.l1 k x3 x6 (wrap64 (x8 + 1)) x890000 x890001 x890002 x890003 x890004 x890005 x890006 x890007 x890008 x890009)) else (some false)) else (if x890007 > 0 then (if ((rd_T81 x6 x8).f4) ≤ ((rd_T81 x6 x8).f3) then (some false) else (tenorlaw8_SchedEnds.l1 k x3 x6 (wrap64 (x8 + 1)) x890000 x890001 x890002 x890003 x890004 x890005 x890006 x890007 x890008 x890009)) else (tenorlaw8_SchedEnds.l1 k x3 x6 (wrap64 (x8 + 1)) x890000 x890001 x890002 x890003 x890004 x890005 x890006 x890007 x890008 x890009)))) else (some false)) else (none)) else (none)) else (if ((rd_T81 x6 x8).f2) > ((rd_T81 x6 x8).f3) then (if x890006 = 0 then (some false) else (if x890007 = 0 then (if ((rd_T81 x6 x8).f4) = ((rd_T81 x6 x8).f3) then (if x890007 > 0 then (if ((rd_T81 x6 x8).f4) ≤ ((rd_T81 x6 x8).f3) then (some false) else (tenorlaw8_SchedEnds.l1 k x3 x6 (wrap64 (x8 + 1)) x890000 x890001 x890002 x890003 x890004 x890005 x890006 x890007 x890008 x890009)) else (tenorlaw8_SchedEnds.l1 k x3 x6 (wrap64 (x8 + 1)) x890000 x890001 x890002 x890003 x890004 x890005 x890006 x890007 x890008 x890009)) else (some false)) else (if x890007 > 0 then (if ((rd_T81 x6 x8).f4) ≤ ((rd_T81 x6 x8).f3) then (some false) else (tenorlaw8_SchedEnds.l1 k x3 x6 (wrap64 (x8 + 1)) x890000 x890001 x890002 x890003 x890004 x890005 x890006 x890007 x890008 x890009)) else (tenorlaw8_SchedEnds.l1 k x3 x6 (wrap64 (x8 + 1)) x890000 x890001 x890002 x890003 x890004 x890005 x890006 x890007 x890008 x890009)))) else (if x890007 = 0 then (if ((rd_T81 x6 x8).f4) = ((rd_T81 x6 x8).f3) then (if x890007 > 0 then (if ((rd_T81 x6 x8).f4) ≤ ((rd_T81 x6 x8).f3) then (some false) else (tenorlaw8_SchedEnds.l1 k x3 x6 (wrap64 (x8 + 1)) x890000 x890001 x890002 x890003 x890004 x890005 x890006 x890007 x890008 x890009)) else (tenorlaw8_SchedEnds.l1 k x3 x6 (wrap64 (x8 + 1)) x890000 x890001 x890002 x890003 x890004 x890005 x890006 x890007 x890008 x890009)) else (some false)) else (if x890007 > 0 then (if ((rd_T81 x6 x8).f4) ≤ ((rd_T81 x6 x8).f3) then (some false) else (tenorlaw8_SchedEnds.l1 k x3 x6 (wrap64 (x8 + 1)) x890000 x890001 x890002 x890003 x890004 x890005 x890006 x890007 x890008 x890009)) else (tenorlaw8_SchedEnds.l1 k x3 x6 (wrap64 (x8 + 1)) x890000 x890001 x890002 x890003 x890004 x890005 x890006 x890007 x890008 x890009))))) else (some false)) else (none)) else (none)) else (some false)) else (none)) else (none)) else ((tenorlaw8_awake.f k).bind fun t940 => (some t940))
end
def tenorlaw8_SchedEnds.f (k : Nat) (a0_0 : Int) (a0_1 : Int) (a0_2 : Int) (a0_3 : Int) (a0_4 : Int) (a0_5 : Int) (a0_6 : Int) (a0_7 : Int) (a0_8 : Int) (l0_9 : List (S63)) : Option (Bool) := (tenorlaw8_small.f k a0_0 a0_1 a0_2 a0_3 a0_4 a0_5 a0_6 a0_7 a0_8 l0_9).bind fun t890 => (if t890 = true then ((sched_Dates.f k a0_0 a0_1 a0_2 a0_3 a0_4 a0_5 a0_6 a0_7 a0_8 l0_9).bind fun bt892 => (if bt892.2 = 0 then (if (bt892.1.length : Int) < 2 then (tenorlaw8_SchedEnds.j0 k bt892.1 true a0_0 a0_1 a0_2 a0_3 a0_4 a0_5 a0_6 a0_7 a0_8 l0_9) else (if 0 < (bt892.1.length : Int) then (if (rd bt892.1 0) = a0_0 then (if 0 ≤ (wrap64 ((bt892.1.length : Int) - 1)) then (if (wrap64 ((bt892.1.length : Int) - 1)) < (bt892.1.length : Int) then (if (rd bt892.1 (wrap64 ((bt892.1.length : Int) - 1))) = a0_1 then (tenorlaw8_SchedEnds.j0 k bt892.1 (decide ((bt892.1.length : Int) > 1201)) a0_0 a0_1 a0_2 a0_3 a0_4 a0_5 a0_6 a0_7 a0_8 l0_9) else (tenorlaw8_SchedEnds.j0 k bt892.1 true a0_0 a0_1 a0_2 a0_3 a0_4 a0_5 a0_6 a0_7 a0_8 l0_9)) else (none)) else (none)) else (tenorlaw8_SchedEnds.j0 k bt892.1 true a0_0 a0_1 a0_2 a0_3 a0_4 a0_5 a0_6 a0_7 a0_8 l0_9)) else (none))) else (if (bt892.1.length : Int) = 0 then ((tenorlaw8_awake.f k).bind fun t896 => (some t896)) else (some false)))) else ((tenorlaw8_awake.f k).bind fun t891 => (some t891)))
theorem tenorlaw8_SchedEnds.mono_l : ∀ k, (∀ y0 y1 y2 y3 y4 y5 y6 y7 y8 y9 y10 y11, LeO (tenorlaw8_SchedEnds.j0 k y0 y1 y2 y3 y4 y5 y6 y7 y8 y9 y10 y11) (tenorlaw8_SchedEnds.j0 (k + 1) y0 y1 y2 y3 y4 y5 y6 y7 y8 y9 y10 y11)) ∧ (∀ y0 y1 y2 y3 y4 y5 y6 y7 y8 y9 y10 y11, LeO (tenorlaw8_SchedEnds.l0 k y0 y1 y2 y3 y4 y5 y6 y7 y8 y9 y10 y11) (tenorlaw8_SchedEnds.l0 (k + 1) y0 y1 y2 y3 y4 y5 y6 y7 y8 y9 y10 y11)) ∧ (∀ y0 y1 y2 y3 y4 y5 y6 y7 y8 y9 y10 y11 y12, LeO (tenorlaw8_SchedEnds.l1 k y0 y1 y2 y3 y4 y5 y6 y7 y8 y9 y10 y11 y12) (tenorlaw8_SchedEnds.l1 (k + 1) y0 y1 y2 y3 y4 y5 y6 y7 y8 y9 y10 y11 y12))
 | 0 => ⟨fun _ _ _ _ _ _ _ _ _ _ _ _ r h => by simp [tenorlaw8_SchedEnds.j0] at h, fun _ _ _ _ _ _ _ _ _ _ _ _ r h => by simp [tenorlaw8_SchedEnds.l0] at h, fun _ _ _ _ _ _ _ _ _ _ _ _ _ r h => by simp [tenorlaw8_SchedEnds.l1] at h⟩
 | k + 1 => by
  obtain ⟨ih0, ih1, ih2⟩ := tenorlaw8_SchedEnds.mono_l k
  refine ⟨?_, ?_, ?_⟩
  ·
   intro y0 y1 y2 y3 y4 y5 y6 y7 y8 y9 y10 y11
   unfold tenorlaw8_SchedEnds.j0
   repeat' first
   | (with_reducible exact ih0 _ _ _ _ _ _ _ _ _ _ _ _)
   | (with_reducible exact ih1 _ _ _ _ _ _ _ _ _ _ _ _)
   | (with_reducible exact ih2 _ _ _ _ _ _ _ _ _ _ _ _ _)
   | (with_reducible exact sched_Dates.mono _ _ _ _ _ _ _ _ _ _ _)
   | (with_reducible exact sched_Periods.mono _ _ _ _ _ _ _ _ _ _ _)
   | (with_reducible exact tenorlaw8_awake.mono _)
   | (with_reducible exact tenorlaw8_small.mono _ _ _ _ _ _ _ _ _ _ _)
   | (with_reducible exact LeO.refl _)
   | (with_reducible exact LeO.none _)
   | (with_reducible refine LeO.ite ?_ ?_)
   | (with_reducible refine LeO.bind ?_ (fun _ => ?_))
   | exact ih0 _ _ _ _ _ _ _ _ _ _ _ _
   | exact ih1 _ _ _ _ _ _ _ _ _ _ _ _
   | exact ih2 _ _ _ _ _ _ _ _ _ _ _ _ _
   | exact sched_Dates.mono _ _ _ _ _ _ _ _ _ _ _
   | exact sched_Periods.mono _ _ _ _ _ _ _ _ _ _ _
   | exact tenorlaw8_awake.mono _
   | exact tenorlaw8_small.mono _ _ _ _ _ _ _ _ _ _ _
   | exact LeO.none _
   | refine LeO.ite ?_ ?_
   | refine LeO.bind ?_ (fun _ => ?_)
  ·
   intro y0 y1 y2 y3 y4 y5 y6 y7 y8 y9 y10 y11
   unfold tenorlaw8_SchedEnds.l0
   repeat' first
   | (with_reducible exact ih0 _ _ _ _ _ _ _ _ _ _ _ _)
   | (with_reducible exact ih1 _ _ _ _ _ _ _ _ _ _ _ _)
   | (with_reducible exact ih2 _ _ _ _ _ _ _ _ _ _ _ _ _)
   | (with_reducible exact sched_Dates.mono _ _ _ _ _ _ _ _ _ _ _)
   | (with_reducible exact sched_Periods.mono _ _ _ _ _ _ _ _ _ _ _)
   | (with_reducible exact tenorlaw8_awake.mono _)
   | (with_reducible exact tenorlaw8_small.mono _ _ _ _ _ _ _ _ _ _ _)
   | (with_reducible exact LeO.refl _)
   | (with_reducible exact LeO.none _)
   | (with_reducible refine LeO.ite ?_ ?_)
   | (with_reducible refine LeO.bind ?_ (fun _ => ?_))
   | exact ih0 _ _ _ _ _ _ _ _ _ _ _ _
   | exact ih1 _ _ _ _ _ _ _ _ _ _ _ _
   | exact ih2 _ _ _ _ _ _ _ _ _ _ _ _ _
   | exact sched_Dates.mono _ _ _ _ _ _ _ _ _ _ _
   | exact sched_Periods.mono _ _ _ _ _ _ _ _ _ _ _
   | exact tenorlaw8_awake.mono _
   | exact tenorlaw8_small.mono _ _ _ _ _ _ _ _ _ _ _
   | exact LeO.none _
   | refine LeO.ite ?_ ?_
   | refine LeO.bind ?_ (fun _ => ?_)
  ·
   intro y0 y1 y2 y3 y4 y5 y6 y7 y8 y9 y10 y11 y12
   unfold tenorlaw8_SchedEnds.l1
   repeat' first
   | (with_reducible exact ih0 _ _ _ _ _ _ _ _ _ _ _ _)
   | (with_reducible exact ih1 _ _ _ _ _ _ _ _ _ _ _ _)
   | (with_reducible exact ih2 _ _ _ _ _ _ _ _ _ _ _ _ _)
   | (with_reducible exact sched_Dates.mono _ _ _ _ _ _ _ _ _ _ _)
   | (with_reducible exact sched_Periods.mono _ _ _ _ _ _ _ _ _ _ _)
   | (with_reducible exact tenorlaw8_awake.mono _)
   | (with_reducible exact tenorlaw8_small.mono _ _ _ _ _ _ _ _ _ _ _)
   | (with_reducible exact LeO.refl _)
   | (with_reducible exact LeO.none _)
   | (with_reducible refine LeO.ite ?_ ?_)
   | (with_reducible refine LeO.bind ?_ (fun _ => ?_))
   | exact ih0 _ _ _ _ _ _ _ _ _ _ _ _
   | exact ih1 _ _ _ _ _ _ _ _ _ _ _ _
   | exact ih2 _ _ _ _ _ _ _ _ _ _ _ _ _
   | exact sched_Dates.mono _ _ _ _ _ _ _ _ _ _ _
   | exact sched_Periods.mono _ _ _ _ _ _ _ _ _ _ _
   | exact tenorlaw8_awake.mono _
   | exact tenorlaw8_small.mono _ _ _ _ _ _ _ _ _ _ _
   | exact LeO.none _
   | refine LeO.ite ?_ ?_
   | refine LeO.bind ?_ (fun _ => ?_)
theorem tenorlaw8_SchedEnds.mono : ∀ a0 a1 a2 a3 a4 a5 a6 a7 a8 a9 k, LeO (tenorlaw8_SchedEnds.f k a0 a1 a2 a3 a4 a5 a6 a7 a8 a9) (tenorlaw8_SchedEnds.f (k + 1) a0 a1 a2 a3 a4 a5 a6 a7 a8 a9) := by
 intro a0 a1 a2 a3 a4 a5 a6 a7 a8 a9 k
 obtain ⟨ih0, ih1, ih2⟩ := tenorlaw8_SchedEnds.mono_l k
 unfold tenorlaw8_SchedEnds.f
 repeat' first
   | (with_reducible exact ih0 _ _ _ _ _ _ _ _ _ _ _ _)
   | (with_reducible exact ih1 _ _ _ _ _ _ _ _ _ _ _ _)
   | (with_reducible exact ih2 _ _ _ _ _ _ _ _ _ _ _ _ _)
   | (with_reducible exact sched_Dates.mono _ _ _ _ _ _ _ _ _ _ _)
   | (with_reducible exact sched_Periods.mono _ _ _ _ _ _ _ _ _ _ _)
   | (with_reducible exact tenorlaw8_awake.mono _)
   | (with_reducible exact tenorlaw8_small.mono _ _ _ _ _ _ _ _ _ _ _)
   | (with_reducible exact LeO.refl _)
   | (with_reducible exact LeO.none _)
   | (with_reducible refine LeO.ite ?_ ?_)
   | (with_reducible refine LeO.bind ?_ (fun _ => ?_))
   | exact ih0 _ _ _ _ _ _ _ _ _ _ _ _
   | exact ih1 _ _ _ _ _ _ _ _ _ _ _ _
   | exact ih2 _ _ _ _ _ _ _ _ _ _ _ _ _
   | exact sched_Dates.mono _ _ _ _ _ _ _ _ _ _ _
   | exact sched_Periods.mono _ _ _ _ _ _ _ _ _ _ _
   | exact tenorlaw8_awake.mono _
   | exact tenorlaw8_small.mono _ _ _ _ _ _ _ _ _ _ _
   | exact LeO.none _
   | refine LeO.ite ?_ ?_
   | refine LeO.bind ?_ (fun _ => ?_)
set_option maxHeartbeats 8000000 in
set_option maxRecDepth 100000 in
theorem tenorlaw8_SchedEnds.calls (k : Nat) (a0_0 : Int) (a0_1 : Int) (a0_2 : Int) (a0_3 : Int) (a0_4 : Int) (a0_5 : Int) (a0_6 : Int) (a0_7 : Int) (a0_8 : Int) (A0_9 : Option Addr) (c0_9 : Nat) (l0_9 : List (S63)) (r : Bool) (w : World) (hr0_9 : Kd.C k63 w A0_9 l0_9.length l0_9) (hc0_9 : l0_9.length ≤ c0_9) (h : tenorlaw8_SchedEnds.f k a0_0 a0_1 a0_2 a0_3 a0_4 a0_5 a0_6 a0_7 a0_8 l0_9 = some r) (HT : r = true) (HL0_ : ∀ l, sched_Dates.f k a0_0 a0_1 a0_2 a0_3 a0_4 a0_5 a0_6 a0_7 a0_8 l0_9 = some (l, 0) → 0 ≤ a0_7) :
  Calls Try.prog 19 #[.agg #[.int .i64 a0_0, .int .i64 a0_1, .int .i64 a0_2, .int .i64 a0_3, .int .i64 a0_4, .int .i64 a0_5, .int .i64 a0_6, .int .i64 a0_7, .int .i64 a0_8, .slice A0_9 l0_9.length c0_9]] w fun e w' => e = .returned (.bool r) ∧ Below w.heap.size w w' := by
 have HL := Aside0.mk HL0_; clear HL0_
 have hu66 := Try.underlying66;have HR0_9 := Aside0.mk hr0_9;have HC0_9 := Aside0.mk hc0_9;clear hr0_9 hc0_9
 have HB := Aside0.mk (Below.refl w.heap.size w)
 have H : ((tenorlaw8_small.f k a0_0 a0_1 a0_2 a0_3 a0_4 a0_5 a0_6 a0_7 a0_8 l0_9).bind fun t890 => (if t890 = true then ((sched_Dates.f k a0_0 a0_1 a0_2 a0_3 a0_4 a0_5 a0_6 a0_7 a0_8 l0_9).bind fun bt892 => (if bt892.2 = 0 then (if (bt892.1.length : Int) < 2 then (tenorlaw8_SchedEnds.j0 k bt892.1 true a0_0 a0_1 a0_2 a0_3 a0_4 a0_5 a0_6 a0_7 a0_8 l0_9) else (if 0 < (bt892.1.length : Int) then (if (rd bt892.1 0) = a0_0 then (if 0 ≤ (wrap64 ((bt892.1.length : Int) - 1)) then (if (wrap64 ((bt892.1.length : Int) - 1)) < (bt892.1.length : Int) then (if (rd bt892.1 (wrap64 ((bt892.1.length : Int) - 1))) = a0_1 then (tenorlaw8_SchedEnds.j0 k bt892.1 (decide ((bt892.1.length : Int) > 1201)) a0_0 a0_1 a0_2 a0_3 a0_4 a0_5 a0_6 a0_7 a0_8 l0_9) else (tenorlaw8_SchedEnds.j0 k bt892.1 true a0_0 a0_1 a0_2 a0_3 a0_4 a0_5 a0_6 a0_7 a0_8 l0_9)) else (none)) else (none)) else (tenorlaw8_SchedEnds.j0 k bt892.1 true a0_0 a0_1 a0_2 a0_3 a0_4 a0_5 a0_6 a0_7 a0_8 l0_9)) else (none))) else (if (bt892.1.length : Int) = 0 then ((tenorlaw8_awake.f k).bind fun t896 => (some t896)) else (some false)))) else ((tenorlaw8_awake.f k).bind fun t891 => (some t891)))) = some r := h
 clear h;replace H := Option.bind_eq_some_iff.mp H
 obtain ⟨t890, A20, H⟩ := H
 replace H : (if t890 = true then ((sched_Dates.f k a0_0 a0_1 a0_2 a0_3 a0_4 a0_5 a0_6 a0_7 a0_8 l0_9).bind fun bt892 => (if bt892.2 = 0 then (if (bt892.1.length : Int) < 2 then (tenorlaw8_SchedEnds.j0 k bt892.1 true a0_0 a0_1 a0_2 a0_3 a0_4 a0_5 a0_6 a0_7 a0_8 l0_9) else (if 0 < (bt892.1.length : Int) then (if (rd bt892.1 0) = a0_0 then (if 0 ≤ (wrap64 ((bt892.1.length : Int) - 1)) then (if (wrap64 ((bt892.1.length : Int) - 1)) < (bt892.1.length : Int) then (if (rd bt892.1 (wrap64 ((bt892.1.length : Int) - 1))) = a0_1 then (tenorlaw8_SchedEnds.j0 k bt892.1 (decide ((bt892.1.length : Int) > 1201)) a0_0 a0_1 a0_2 a0_3 a0_4 a0_5 a0_6 a0_7 a0_8 l0_9) else (tenorlaw8_SchedEnds.j0 k bt892.1 true a0_0 a0_1 a0_2 a0_3 a0_4 a0_5 a0_6 a0_7 a0_8 l0_9)) else (none)) else (none)) else (tenorlaw8_SchedEnds.j0 k bt892.1 true a0_0 a0_1 a0_2 a0_3 a0_4 a0_5 a0_6 a0_7 a0_8 l0_9)) else (none))) else (if (bt892.1.length : Int) = 0 then ((tenorlaw8_awake.f k).bind fun t896 => (some t896)) else (some false)))) else ((tenorlaw8_awake.f k).bind fun t891 => (some t891))) = some r := H
 have A2 := Aside0.mk A20;clear A20
 by_cases c3 : t890 = true
 ·
  subst c3
  have H1 : ((sched_Dates.f k a0_0 a0_1 a0_2 a0_3 a0_4 a0_5 a0_6 a0_7 a0_8 l0_9).bind fun bt892 => (if bt892.2 = 0 then (if (bt892.1.length : Int) < 2 then (tenorlaw8_SchedEnds.j0 k bt892.1 true a0_0 a0_1 a0_2 a0_3 a0_4 a0_5 a0_6 a0_7 a0_8 l0_9) else (if 0 < (bt892.1.length : Int) then (if (rd bt892.1 0) = a0_0 then (if 0 ≤ (wrap64 ((bt892.1.length : Int) - 1)) then (if (wrap64 ((bt892.1.length : Int) - 1)) < (bt892.1.length : Int) then (if (rd bt892.1 (wrap64 ((bt892.1.length : Int) - 1))) = a0_1 then (tenorlaw8_SchedEnds.j0 k bt892.1 (decide ((bt892.1.length : Int) > 1201)) a0_0 a0_1 a0_2 a0_3 a0_4 a0_5 a0_6 a0_7 a0_8 l0_9) else (tenorlaw8_SchedEnds.j0 k bt892.1 true a0_0 a0_1 a0_2 a0_3 a0_4 a0_5 a0_6 a0_7 a0_8 l0_9)) else (none)) else (none)) else (tenorlaw8_SchedEnds.j0 k bt892.1 true a0_0 a0_1 a0_2 a0_3 a0_4 a0_5 a0_6 a0_7 a0_8 l0_9)) else (none))) else (if (bt892.1.length : Int) = 0 then ((tenorlaw8_awake.f k).bind fun t896 => (some t896)) else (some false)))) = some r := by rw [if_pos rfl] at H; exact H
  clear H;have H := H1;clear H1;replace H := Option.bind_eq_some_iff.mp H
  obtain ⟨⟨t892, t895⟩, A40, H⟩ := H
  replace H : (if t895 = 0 then (if (t892.length : Int) < 2 then (tenorlaw8_SchedEnds.j0 k t892 true a0_0 a0_1 a0_2 a0_3 a0_4 a0_5 a0_6 a0_7 a0_8 l0_9) else (if 0 < (t892.length : Int) then (if (rd t892 0) = a0_0 then (if 0 ≤ (wrap64 ((t892.length : Int) - 1)) then (if (wrap64 ((t892.length : Int) - 1)) < (t892.length : Int) then (if (rd t892 (wrap64 ((t892.length : Int) - 1))) = a0_1 then (tenorlaw8_SchedEnds.j0 k t892 (decide ((t892.length : Int) > 1201)) a0_0 a0_1 a0_2 a0_3 a0_4 a0_5 a0_6 a0_7 a0_8 l0_9) else (tenorlaw8_SchedEnds.j0 k t892 true a0_0 a0_1 a0_2 a0_3 a0_4 a0_5 a0_6 a0_7 a0_8 l0_9)) else (none)) else (none)) else (tenorlaw8_SchedEnds.j0 k t892 true a0_0 a0_1 a0_2 a0_3 a0_4 a0_5 a0_6 a0_7 a0_8 l0_9)) else (none))) else (if (t892.length : Int) = 0 then ((tenorlaw8_awake.f k).bind fun t896 => (some t896)) else (some false))) = some r := H
  have A4 := Aside0.mk A40;clear A40
  by_cases c5 : t895 = 0
  ·
   have HL0 : Aside0 (0 ≤ a0_7) := Aside0.mk (HL.out t892 (by have z_ := A4.out; rw [c5] at z_; exact z_))
   rw [if_pos c5] at H
   have c5b0 : (t895 == 0) = true := beq_iff_eq.mpr c5
   have c5b1 : (t895 != 0) = false := bne_eq_false_iff_eq.mpr c5
   clear c5;have HC6 := Aside0.mk H;clear H
   go_enter Try.func19, Try.ntmps19
   go_upto_region 6 with (first | ((with_reducible refine gate_dst (N := 1) rfl ?_); (try (refine gate_guard (by rfl) ?_; dsimp only)); refine box_event ?hg (N := 1) ?hd (cs := #[.int .i64 a0_0, .int .i64 a0_1, .int .i64 a0_2, .int .i64 a0_3, .int .i64 a0_4, .int .i64 a0_5, .int .i64 a0_6, .int .i64 a0_7, .int .i64 a0_8, .slice A0_9 l0_9.length c0_9]) (t := 66) ?hr ?_; (case hd => rfl); (case hg => rfl); (case hr => first | (go_simp; done) | (go_simp; rfl)); intro gb889 hg w7 hbox hb; have n0_ := Aside0.mk (below_step (by repeat (first | (with_reducible first | exact HB.out | apply below_alloc | apply pw_below_drewN | apply below_drew1) | exact HB.out)) hb); have n1_ := Aside0.mk (hbox); have n2_ := Aside0.mk ((by rw [hg]; exact (below_size (by repeat (first | (with_reducible first | exact HB.out | apply below_alloc | apply pw_below_drewN | apply below_drew1) | exact HB.out))) : w.heap.size ≤ gb889)); have n3_ := Aside0.mk ((by rw [hg]; exact (below_size (by repeat (first | (with_reducible first | exact HB.out | apply below_alloc | apply pw_below_drewN | apply below_drew1) | exact HB.out))) : w.heap.size ≤ gb889)); clear HB; have HB := n0_; have BK889 := n1_; have GW889 := n2_; have GE889 := n3_; clear n0_ n1_ n2_ n3_; clear hb hbox hg; have hcz8_0 : w7.cell? ⟨gb889, 0, none⟩ = some (.int .i64 a0_0) := (blk_cell BK889.out 0).trans rfl; have hcz8_1 : w7.cell? ⟨gb889, 1, none⟩ = some (.int .i64 a0_1) := (blk_cell BK889.out 1).trans rfl; have hcz8_2 : w7.cell? ⟨gb889, 2, none⟩ = some (.int .i64 a0_2) := (blk_cell BK889.out 2).trans rfl; have hcz8_3 : w7.cell? ⟨gb889, 3, none⟩ = some (.int .i64 a0_3) := (blk_cell BK889.out 3).trans rfl; have hcz8_4 : w7.cell? ⟨gb889, 4, none⟩ = some (.int .i64 a0_4) := (blk_cell BK889.out 4).trans rfl; have hcz8_5 : w7.cell? ⟨gb889, 5, none⟩ = some (.int .i64 a0_5) := (blk_cell BK889.out 5).trans rfl; have hcz8_6 : w7.cell? ⟨gb889, 6, none⟩ = some (.int .i64 a0_6) := (blk_cell BK889.out 6).trans rfl; have hcz8_7 : w7.cell? ⟨gb889, 7, none⟩ = some (.int .i64 a0_7) := (blk_cell BK889.out 7).trans rfl; have hcz8_8 : w7.cell? ⟨gb889, 8, none⟩ = some (.int .i64 a0_8) := (blk_cell BK889.out 8).trans rfl; have hcz8_9 : w7.cell? ⟨gb889, 9, none⟩ = some (.slice A0_9 l0_9.length c0_9) := (blk_cell BK889.out 9).trans rfl; have hfz8_0 := blk_frozen BK889.out 0; have hfz8_1 := blk_frozen BK889.out 1; have hfz8_2 := blk_frozen BK889.out 2; have hfz8_3 := blk_frozen BK889.out 3; have hfz8_4 := blk_frozen BK889.out 4; have hfz8_5 := blk_frozen BK889.out 5; have hfz8_6 := blk_frozen BK889.out 6; have hfz8_7 := blk_frozen BK889.out 7; have hfz8_8 := blk_frozen BK889.out 8; have hfz8_9 := blk_frozen BK889.out 9) | (go_at_call 53; (with_reducible refine (tenorlaw8_small.calls k a0_0 a0_1 a0_2 a0_3 a0_4 a0_5 a0_6 a0_7 a0_8 _ _ l0_9 true _ ?side1 ?side2 A2.out).mono ?_); (case side1 => repeat (first | exact (Kd.C_below HR0_9.out HB.out) | (with_reducible refine Kd.C_alloc ?_ _) | (with_reducible refine Kd.C_drewN ?_ _) | (with_reducible refine Kd.C_drew ?_))); (case side2 => exact HC0_9.out); rintro e w9 ⟨rfl, hb⟩; have n0_ := Aside0.mk (blk_below (g := gb889) (o := .cells #[.int .i64 a0_0, .int .i64 a0_1, .int .i64 a0_2, .int .i64 a0_3, .int .i64 a0_4, .int .i64 a0_5, .int .i64 a0_6, .int .i64 a0_7, .int .i64 a0_8, .slice A0_9 l0_9.length c0_9] 66 (0, 0)) (by (with_reducible repeat (first | refine blk_drewN ?_ _ | refine blk_drew ?_ | refine blk_alloc ?_ _)); exact BK889.out) hb); have n1_ := Aside0.mk (below_step (by repeat (first | (with_reducible first | exact HB.out | apply below_alloc | apply pw_below_drewN | apply below_drew1 | refine below_set ?_ GE889.out) | exact HB.out)) hb); clear BK889; clear HB; have BK889 := n0_; have HB := n1_; clear n0_ n1_; (try clear hb); (try clear hb2); (try clear hk); (try clear hi); have hcz10_0 : w9.cell? ⟨gb889, 0, none⟩ = some (.int .i64 a0_0) := (blk_cell BK889.out 0).trans rfl; have hcz10_1 : w9.cell? ⟨gb889, 1, none⟩ = some (.int .i64 a0_1) := (blk_cell BK889.out 1).trans rfl; have hcz10_2 : w9.cell? ⟨gb889, 2, none⟩ = some (.int .i64 a0_2) := (blk_cell BK889.out 2).trans rfl; have hcz10_3 : w9.cell? ⟨gb889, 3, none⟩ = some (.int .i64 a0_3) := (blk_cell BK889.out 3).trans rfl; have hcz10_4 : w9.cell? ⟨gb889, 4, none⟩ = some (.int .i64 a0_4) := (blk_cell BK889.out 4).trans rfl; have hcz10_5 : w9.cell? ⟨gb889, 5, none⟩ = some (.int .i64 a0_5) := (blk_cell BK889.out 5).trans rfl; have hcz10_6 : w9.cell? ⟨gb889, 6, none⟩ = some (.int .i64 a0_6) := (blk_cell BK889.out 6).trans rfl; have hcz10_7 : w9.cell? ⟨gb889, 7, none⟩ = some (.int .i64 a0_7) := (blk_cell BK889.out 7).trans rfl; have hcz10_8 : w9.cell? ⟨gb889, 8, none⟩ = some (.int .i64 a0_8) := (blk_cell BK889.out 8).trans rfl; have hcz10_9 : w9.cell? ⟨gb889, 9, none⟩ = some (.slice A0_9 l0_9.length c0_9) := (blk_cell BK889.out 9).trans rfl; have hfz10_0 := blk_frozen BK889.out 0; have hfz10_1 := blk_frozen BK889.out 1; have hfz10_2 := blk_frozen BK889.out 2; have hfz10_3 := blk_frozen BK889.out 3; have hfz10_4 := blk_frozen BK889.out 4; have hfz10_5 := blk_frozen BK889.out 5; have hfz10_6 := blk_frozen BK889.out 6; have hfz10_7 := blk_frozen BK889.out 7; have hfz10_8 := blk_frozen BK889.out 8; have hfz10_9 := blk_frozen BK889.out 9) | (go_at_call 50; (with_reducible refine (sched_Dates.calls k a0_0 a0_1 a0_2 a0_3 a0_4 a0_5 a0_6 a0_7 a0_8 _ _ l0_9 t892 t895 _ ?side1 ?side2 A4.out).mono ?_); (case side1 => repeat (first | exact (Kd.C_below HR0_9.out HB.out) | (with_reducible refine Kd.C_alloc ?_ _) | (with_reducible refine Kd.C_drewN ?_ _) | (with_reducible refine Kd.C_drew ?_))); (case side2 => exact HC0_9.out); rintro e w11 ⟨v893, rfl, ho0, hb⟩; have n0_ := Aside0.mk (Kd.R_lower ho0 (below_size (by repeat (first | (with_reducible first | exact HB.out | apply below_alloc | apply pw_below_drewN | apply below_drew1 | refine below_set ?_ GE889.out) | exact HB.out)))); have n1_ := Aside0.mk (blk_below (g := gb889) (o := .cells #[.int .i64 a0_0, .int .i64 a0_1, .int .i64 a0_2, .int .i64 a0_3, .int .i64 a0_4, .int .i64 a0_5, .int .i64 a0_6, .int .i64 a0_7, .int .i64 a0_8, .slice A0_9 l0_9.length c0_9] 66 (0, 0)) (by (with_reducible repeat (first | refine blk_drewN ?_ _ | refine blk_drew ?_ | refine blk_alloc ?_ _)); exact BK889.out) hb); have n2_ := Aside0.mk (below_step (by repeat (first | (with_reducible first | exact HB.out | apply below_alloc | apply pw_below_drewN | apply below_drew1 | refine below_set ?_ GE889.out) | exact HB.out)) hb); clear BK889; clear HB; have HO894 := n0_; have BK889 := n1_; have HB := n2_; clear n0_ n1_ n2_; (try clear hb); (try clear hb2); (try clear hk); (try clear hi); (try clear ho0)))
   repeat (go_quiet (first | ((with_reducible refine gate_dst (N := 1) rfl ?_); (try (refine gate_guard (by rfl) ?_; dsimp only)); refine box_event ?hg (N := 1) ?hd (cs := #[.int .i64 a0_0, .int .i64 a0_1, .int .i64 a0_2, .int .i64 a0_3, .int .i64 a0_4, .int .i64 a0_5, .int .i64 a0_6, .int .i64 a0_7, .int .i64 a0_8, .slice A0_9 l0_9.length c0_9]) (t := 66) ?hr ?_; (case hd => rfl); (case hg => rfl); (case hr => first | (go_simp; done) | (go_simp; rfl)); intro gb889 hg w7 hbox hb; have n0_ := Aside0.mk (below_step (by repeat (first | (with_reducible first | exact HB.out | apply below_alloc | apply pw_below_drewN | apply below_drew1) | exact HB.out)) hb); have n1_ := Aside0.mk (hbox); have n2_ := Aside0.mk ((by rw [hg]; exact (below_size (by repeat (first | (with_reducible first | exact HB.out | apply below_alloc | apply pw_below_drewN | apply below_drew1) | exact HB.out))) : w.heap.size ≤ gb889)); have n3_ := Aside0.mk ((by rw [hg]; exact (below_size (by repeat (first | (with_reducible first | exact HB.out | apply below_alloc | apply pw_below_drewN | apply below_drew1) | exact HB.out))) : w.heap.size ≤ gb889)); clear HB; have HB := n0_; have BK889 := n1_; have GW889 := n2_; have GE889 := n3_; clear n0_ n1_ n2_ n3_; clear hb hbox hg; have hcz8_0 : w7.cell? ⟨gb889, 0, none⟩ = some (.int .i64 a0_0) := (blk_cell BK889.out 0).trans rfl; have hcz8_1 : w7.cell? ⟨gb889, 1, none⟩ = some (.int .i64 a0_1) := (blk_cell BK889.out 1).trans rfl; have hcz8_2 : w7.cell? ⟨gb889, 2, none⟩ = some (.int .i64 a0_2) := (blk_cell BK889.out 2).trans rfl; have hcz8_3 : w7.cell? ⟨gb889, 3, none⟩ = some (.int .i64 a0_3) := (blk_cell BK889.out 3).trans rfl; have hcz8_4 : w7.cell? ⟨gb889, 4, none⟩ = some (.int .i64 a0_4) := (blk_cell BK889.out 4).trans rfl; have hcz8_5 : w7.cell? ⟨gb889, 5, none⟩ = some (.int .i64 a0_5) := (blk_cell BK889.out 5).trans rfl; have hcz8_6 : w7.cell? ⟨gb889, 6, none⟩ = some (.int .i64 a0_6) := (blk_cell BK889.out 6).trans rfl; have hcz8_7 : w7.cell? ⟨gb889, 7, none⟩ = some (.int .i64 a0_7) := (blk_cell BK889.out 7).trans rfl; have hcz8_8 : w7.cell? ⟨gb889, 8, none⟩ = some (.int .i64 a0_8) := (blk_cell BK889.out 8).trans rfl; have hcz8_9 : w7.cell? ⟨gb889, 9, none⟩ = some (.slice A0_9 l0_9.length c0_9) := (blk_cell BK889.out 9).trans rfl; have hfz8_0 := blk_frozen BK889.out 0; have hfz8_1 := blk_frozen BK889.out 1; have hfz8_2 := blk_frozen BK889.out 2; have hfz8_3 := blk_frozen BK889.out 3; have hfz8_4 := blk_frozen BK889.out 4; have hfz8_5 := blk_frozen BK889.out 5; have hfz8_6 := blk_frozen BK889.out 6; have hfz8_7 := blk_frozen BK889.out 7; have hfz8_8 := blk_frozen BK889.out 8; have hfz8_9 := blk_frozen BK889.out 9) | (go_at_call 53; (with_reducible refine (tenorlaw8_small.calls k a0_0 a0_1 a0_2 a0_3 a0_4 a0_5 a0_6 a0_7 a0_8 _ _ l0_9 true _ ?side1 ?side2 A2.out).mono ?_); (case side1 => repeat (first | exact (Kd.C_below HR0_9.out HB.out) | (with_reducible refine Kd.C_alloc ?_ _) | (with_reducible refine Kd.C_drewN ?_ _) | (with_reducible refine Kd.C_drew ?_))); (case side2 => exact HC0_9.out); rintro e w9 ⟨rfl, hb⟩; have n0_ := Aside0.mk (blk_below (g := gb889) (o := .cells #[.int .i64 a0_0, .int .i64 a0_1, .int .i64 a0_2, .int .i64 a0_3, .int .i64 a0_4, .int .i64 a0_5, .int .i64 a0_6, .int .i64 a0_7, .int .i64 a0_8, .slice A0_9 l0_9.length c0_9] 66 (0, 0)) (by (with_reducible repeat (first | refine blk_drewN ?_ _ | refine blk_drew ?_ | refine blk_alloc ?_ _)); exact BK889.out) hb); have n1_ := Aside0.mk (below_step (by repeat (first | (with_reducible first | exact HB.out | apply below_alloc | apply pw_below_drewN | apply below_drew1 | refine below_set ?_ GE889.out) | exact HB.out)) hb); clear BK889; clear HB; have BK889 := n0_; have HB := n1_; clear n0_ n1_; (try clear hb); (try clear hb2); (try clear hk); (try clear hi); have hcz10_0 : w9.cell? ⟨gb889, 0, none⟩ = some (.int .i64 a0_0) := (blk_cell BK889.out 0).trans rfl; have hcz10_1 : w9.cell? ⟨gb889, 1, none⟩ = some (.int .i64 a0_1) := (blk_cell BK889.out 1).trans rfl; have hcz10_2 : w9.cell? ⟨gb889, 2, none⟩ = some (.int .i64 a0_2) := (blk_cell BK889.out 2).trans rfl; have hcz10_3 : w9.cell? ⟨gb889, 3, none⟩ = some (.int .i64 a0_3) := (blk_cell BK889.out 3).trans rfl; have hcz10_4 : w9.cell? ⟨gb889, 4, none⟩ = some (.int .i64 a0_4) := (blk_cell BK889.out 4).trans rfl; have hcz10_5 : w9.cell? ⟨gb889, 5, none⟩ = some (.int .i64 a0_5) := (blk_cell BK889.out 5).trans rfl; have hcz10_6 : w9.cell? ⟨gb889, 6, none⟩ = some (.int .i64 a0_6) := (blk_cell BK889.out 6).trans rfl; have hcz10_7 : w9.cell? ⟨gb889, 7, none⟩ = some (.int .i64 a0_7) := (blk_cell BK889.out 7).trans rfl; have hcz10_8 : w9.cell? ⟨gb889, 8, none⟩ = some (.int .i64 a0_8) := (blk_cell BK889.out 8).trans rfl; have hcz10_9 : w9.cell? ⟨gb889, 9, none⟩ = some (.slice A0_9 l0_9.length c0_9) := (blk_cell BK889.out 9).trans rfl; have hfz10_0 := blk_frozen BK889.out 0; have hfz10_1 := blk_frozen BK889.out 1; have hfz10_2 := blk_frozen BK889.out 2; have hfz10_3 := blk_frozen BK889.out 3; have hfz10_4 := blk_frozen BK889.out 4; have hfz10_5 := blk_frozen BK889.out 5; have hfz10_6 := blk_frozen BK889.out 6; have hfz10_7 := blk_frozen BK889.out 7; have hfz10_8 := blk_frozen BK889.out 8; have hfz10_9 := blk_frozen BK889.out 9) | (go_at_call 50; (with_reducible refine (sched_Dates.calls k a0_0 a0_1 a0_2 a0_3 a0_4 a0_5 a0_6 a0_7 a0_8 _ _ l0_9 t892 t895 _ ?side1 ?side2 A4.out).mono ?_); (case side1 => repeat (first | exact (Kd.C_below HR0_9.out HB.out) | (with_reducible refine Kd.C_alloc ?_ _) | (with_reducible refine Kd.C_drewN ?_ _) | (with_reducible refine Kd.C_drew ?_))); (case side2 => exact HC0_9.out); rintro e w11 ⟨v893, rfl, ho0, hb⟩; have n0_ := Aside0.mk (Kd.R_lower ho0 (below_size (by repeat (first | (with_reducible first | exact HB.out | apply below_alloc | apply pw_below_drewN | apply below_drew1 | refine below_set ?_ GE889.out) | exact HB.out)))); have n1_ := Aside0.mk (blk_below (g := gb889) (o := .cells #[.int .i64 a0_0, .int .i64 a0_1, .int .i64 a0_2, .int .i64 a0_3, .int .i64 a0_4, .int .i64 a0_5, .int .i64 a0_6, .int .i64 a0_7, .int .i64 a0_8, .slice A0_9 l0_9.length c0_9] 66 (0, 0)) (by (with_reducible repeat (first | refine blk_drewN ?_ _ | refine blk_drew ?_ | refine blk_alloc ?_ _)); exact BK889.out) hb); have n2_ := Aside0.mk (below_step (by repeat (first | (with_reducible first | exact HB.out | apply below_alloc | apply pw_below_drewN | apply below_drew1 | refine below_set ?_ GE889.out) | exact HB.out)) hb); clear BK889; clear HB; have HO894 := n0_; have BK889 := n1_; have HB := n2_; clear n0_ n1_ n2_; (try clear hb); (try clear hb2); (try clear hk); (try clear hi); (try clear ho0))); go_upto_region 6 with (first | ((with_reducible refine gate_dst (N := 1) rfl ?_); (try (refine gate_guard (by rfl) ?_; dsimp only)); refine box_event ?hg (N := 1) ?hd (cs := #[.int .i64 a0_0, .int .i64 a0_1, .int .i64 a0_2, .int .i64 a0_3, .int .i64 a0_4, .int .i64 a0_5, .int .i64 a0_6, .int .i64 a0_7, .int .i64 a0_8, .slice A0_9 l0_9.length c0_9]) (t := 66) ?hr ?_; (case hd => rfl); (case hg => rfl); (case hr => first | (go_simp; done) | (go_simp; rfl)); intro gb889 hg w7 hbox hb; have n0_ := Aside0.mk (below_step (by repeat (first | (with_reducible first | exact HB.out | apply below_alloc | apply pw_below_drewN | apply below_drew1) | exact HB.out)) hb); have n1_ := Aside0.mk (hbox); have n2_ := Aside0.mk ((by rw [hg]; exact (below_size (by repeat (first | (with_reducible first | exact HB.out | apply below_alloc | apply pw_below_drewN | apply below_drew1) | exact HB.out))) : w.heap.size ≤ gb889)); have n3_ := Aside0.mk ((by rw [hg]; exact (below_size (by repeat (first | (with_reducible first | exact HB.out | apply below_alloc | apply pw_below_drewN | apply below_drew1) | exact HB.out))) : w.heap.size ≤ gb889)); clear HB; have HB := n0_; have BK889 := n1_; have GW889 := n2_; have GE889 := n3_; clear n0_ n1_ n2_ n3_; clear hb hbox hg; have hcz8_0 : w7.cell? ⟨gb889, 0, none⟩ = some (.int .i64 a0_0) := (blk_cell BK889.out 0).trans rfl; have hcz8_1 : w7.cell? ⟨gb889, 1, none⟩ = some (.int .i64 a0_1) := (blk_cell BK889.out 1).trans rfl; have hcz8_2 : w7.cell? ⟨gb889, 2, none⟩ = some (.int .i64 a0_2) := (blk_cell BK889.out 2).trans rfl; have hcz8_3 : w7.cell? ⟨gb889, 3, none⟩ = some (.int .i64 a0_3) := (blk_cell BK889.out 3).trans rfl; have hcz8_4 : w7.cell? ⟨gb889, 4, none⟩ = some (.int .i64 a0_4) := (blk_cell BK889.out 4).trans rfl; have hcz8_5 : w7.cell? ⟨gb889, 5, none⟩ = some (.int .i64 a0_5) := (blk_cell BK889.out 5).trans rfl; have hcz8_6 : w7.cell? ⟨gb889, 6, none⟩ = some (.int .i64 a0_6) := (blk_cell BK889.out 6).trans rfl; have hcz8_7 : w7.cell? ⟨gb889, 7, none⟩ = some (.int .i64 a0_7) := (blk_cell BK889.out 7).trans rfl; have hcz8_8 : w7.cell? ⟨gb889, 8, none⟩ = some (.int .i64 a0_8) := (blk_cell BK889.out 8).trans rfl; have hcz8_9 : w7.cell? ⟨gb889, 9, none⟩ = some (.slice A0_9 l0_9.length c0_9) := (blk_cell BK889.out 9).trans rfl; have hfz8_0 := blk_frozen BK889.out 0; have hfz8_1 := blk_frozen BK889.out 1; have hfz8_2 := blk_frozen BK889.out 2; have hfz8_3 := blk_frozen BK889.out 3; have hfz8_4 := blk_frozen BK889.out 4; have hfz8_5 := blk_frozen BK889.out 5; have hfz8_6 := blk_frozen BK889.out 6; have hfz8_7 := blk_frozen BK889.out 7; have hfz8_8 := blk_frozen BK889.out 8; have hfz8_9 := blk_frozen BK889.out 9) | (go_at_call 53; (with_reducible refine (tenorlaw8_small.calls k a0_0 a0_1 a0_2 a0_3 a0_4 a0_5 a0_6 a0_7 a0_8 _ _ l0_9 true _ ?side1 ?side2 A2.out).mono ?_); (case side1 => repeat (first | exact (Kd.C_below HR0_9.out HB.out) | (with_reducible refine Kd.C_alloc ?_ _) | (with_reducible refine Kd.C_drewN ?_ _) | (with_reducible refine Kd.C_drew ?_))); (case side2 => exact HC0_9.out); rintro e w9 ⟨rfl, hb⟩; have n0_ := Aside0.mk (blk_below (g := gb889) (o := .cells #[.int .i64 a0_0, .int .i64 a0_1, .int .i64 a0_2, .int .i64 a0_3, .int .i64 a0_4, .int .i64 a0_5, .int .i64 a0_6, .int .i64 a0_7, .int .i64 a0_8, .slice A0_9 l0_9.length c0_9] 66 (0, 0)) (by (with_reducible repeat (first | refine blk_drewN ?_ _ | refine blk_drew ?_ | refine blk_alloc ?_ _)); exact BK889.out) hb); have n1_ := Aside0.mk (below_step (by repeat (first | (with_reducible first | exact HB.out | apply below_alloc | apply pw_below_drewN | apply below_drew1 | refine below_set ?_ GE889.out) | exact HB.out)) hb); clear BK889; clear HB; have BK889 := n0_; have HB := n1_; clear n0_ n1_; (try clear hb); (try clear hb2); (try clear hk); (try clear hi); have hcz10_0 : w9.cell? ⟨gb889, 0, none⟩ = some (.int .i64 a0_0) := (blk_cell BK889.out 0).trans rfl; have hcz10_1 : w9.cell? ⟨gb889, 1, none⟩ = some (.int .i64 a0_1) := (blk_cell BK889.out 1).trans rfl; have hcz10_2 : w9.cell? ⟨gb889, 2, none⟩ = some (.int .i64 a0_2) := (blk_cell BK889.out 2).trans rfl; have hcz10_3 : w9.cell? ⟨gb889, 3, none⟩ = some (.int .i64 a0_3) := (blk_cell BK889.out 3).trans rfl; have hcz10_4 : w9.cell? ⟨gb889, 4, none⟩ = some (.int .i64 a0_4) := (blk_cell BK889.out 4).trans rfl; have hcz10_5 : w9.cell? ⟨gb889, 5, none⟩ = some (.int .i64 a0_5) := (blk_cell BK889.out 5).trans rfl; have hcz10_6 : w9.cell? ⟨gb889, 6, none⟩ = some (.int .i64 a0_6) := (blk_cell BK889.out 6).trans rfl; have hcz10_7 : w9.cell? ⟨gb889, 7, none⟩ = some (.int .i64 a0_7) := (blk_cell BK889.out 7).trans rfl; have hcz10_8 : w9.cell? ⟨gb889, 8, none⟩ = some (.int .i64 a0_8) := (blk_cell BK889.out 8).trans rfl; have hcz10_9 : w9.cell? ⟨gb889, 9, none⟩ = some (.slice A0_9 l0_9.length c0_9) := (blk_cell BK889.out 9).trans rfl; have hfz10_0 := blk_frozen BK889.out 0; have hfz10_1 := blk_frozen BK889.out 1; have hfz10_2 := blk_frozen BK889.out 2; have hfz10_3 := blk_frozen BK889.out 3; have hfz10_4 := blk_frozen BK889.out 4; have hfz10_5 := blk_frozen BK889.out 5; have hfz10_6 := blk_frozen BK889.out 6; have hfz10_7 := blk_frozen BK889.out 7; have hfz10_8 := blk_frozen BK889.out 8; have hfz10_9 := blk_frozen BK889.out 9) | (go_at_call 50; (with_reducible refine (sched_Dates.calls k a0_0 a0_1 a0_2 a0_3 a0_4 a0_5 a0_6 a0_7 a0_8 _ _ l0_9 t892 t895 _ ?side1 ?side2 A4.out).mono ?_); (case side1 => repeat (first | exact (Kd.C_below HR0_9.out HB.out) | (with_reducible refine Kd.C_alloc ?_ _) | (with_reducible refine Kd.C_drewN ?_ _) | (with_reducible refine Kd.C_drew ?_))); (case side2 => exact HC0_9.out); rintro e w11 ⟨v893, rfl, ho0, hb⟩; have n0_ := Aside0.mk (Kd.R_lower ho0 (below_size (by repeat (first | (with_reducible first | exact HB.out | apply below_alloc | apply pw_below_drewN | apply below_drew1 | refine below_set ?_ GE889.out) | exact HB.out)))); have n1_ := Aside0.mk (blk_below (g := gb889) (o := .cells #[.int .i64 a0_0, .int .i64 a0_1, .int .i64 a0_2, .int .i64 a0_3, .int .i64 a0_4, .int .i64 a0_5, .int .i64 a0_6, .int .i64 a0_7, .int .i64 a0_8, .slice A0_9 l0_9.length c0_9] 66 (0, 0)) (by (with_reducible repeat (first | refine blk_drewN ?_ _ | refine blk_drew ?_ | refine blk_alloc ?_ _)); exact BK889.out) hb); have n2_ := Aside0.mk (below_step (by repeat (first | (with_reducible first | exact HB.out | apply below_alloc | apply pw_below_drewN | apply below_drew1 | refine below_set ?_ GE889.out) | exact HB.out)) hb); clear BK889; clear HB; have HO894 := n0_; have BK889 := n1_; have HB := n2_; clear n0_ n1_ n2_; (try clear hb); (try clear hb2); (try clear hk); (try clear hi); (try clear ho0))))
   (try simp only [Act.put, List.setIfInBounds_toArray, List.set_cons_zero, List.set_cons_succ])
   go_cut [52] (fun v52 wc => ∃ (kq : Nat) (x52_5 : Bool), v52 = .bool x52_5 ∧ Aside0 (tenorlaw8_SchedEnds.j0 kq t892 x52_5 a0_0 a0_1 a0_2 a0_3 a0_4 a0_5 a0_6 a0_7 a0_8 l0_9 = some r) ∧ Aside0 (kq ≤ k) ∧ Aside0 (Kd.R (Kd.int .i64) 3 wc w.heap.size (fun _ => True) v893 t892) ∧ Aside0 (wc.heap[gb889]? = some (.cells #[.int .i64 a0_0, .int .i64 a0_1, .int .i64 a0_2, .int .i64 a0_3, .int .i64 a0_4, .int .i64 a0_5, .int .i64 a0_6, .int .i64 a0_7, .int .i64 a0_8, (.slice A0_9 l0_9.length c0_9)] 66 (0, 0))) ∧ Aside0 (Below w.heap.size w wc))
   case first =>
    have H := HC6.out;clear HC6
    by_cases c12 : (t892.length : Int) < 2
    ·
     rw [if_pos c12] at H
     have c12b0 : decide ((t892.length : Int) < 2) = true := decide_eq_true c12
     have c12b1 : decide (t892.length < 2) = true := decide_eq_true (by omega)
     clear c12
     (first | rw [c12b0] | (simp only [i64_w, i32_w]; rw [c12b0]) | skip)
     have H' := Aside0.mk H;clear H
     obtain ⟨Ao13, co13, eo13⟩ := Kd.R_slice HO894.out
     subst eo13
     go_wp2
     repeat (go_quiet (fail); try go_wp2)
     go_meet
     case rel => exact ⟨_, (true), (by first | rfl | (simp; done) | (simp [*]; done)), H', ⟨by first | omega | exact Nat.le_refl _⟩, ⟨by (with_reducible repeat (first | apply Kd.R_alloc | apply Kd.R_drewN | apply Kd.R_drew)); exact HO894.out⟩, ⟨by (with_reducible repeat (first | refine blk_drewN ?_ _ | refine blk_drew ?_ | refine blk_alloc ?_ _)); exact BK889.out⟩, ⟨by repeat (first | (with_reducible first | exact HB.out | apply below_alloc | apply pw_below_drewN | apply below_drew1 | refine below_set ?_ GE889.out) | exact HB.out)⟩⟩
    ·
     rw [if_neg c12] at H
     have c12b0 : decide ((t892.length : Int) < 2) = false := decide_eq_false c12
     have c12b1 : decide (t892.length < 2) = false := decide_eq_false (by omega)
     clear c12
     (first | rw [c12b0] | (simp only [i64_w, i32_w]; rw [c12b0]) | skip)
     by_cases c14 : 0 < (t892.length : Int)
     ·
      rw [if_pos c14] at H
      have c14b0 : decide (0 < (t892.length : Int)) = true := decide_eq_true c14
      have c14b1 : decide (0 < t892.length) = true := decide_eq_true (by omega)
      clear c14
      by_cases c15 : (rd t892 0) = a0_0
      ·
       rw [if_pos c15] at H
       have c15b0 : ((rd t892 0) == a0_0) = true := beq_iff_eq.mpr c15
       have c15b1 : ((rd t892 0) != a0_0) = false := bne_eq_false_iff_eq.mpr c15
       clear c15
       obtain ⟨ji16, hji16⟩ : ∃ j_ : Int, (wrap64 ((t892.length : Int) - 1)) = j_ := ⟨_, rfl⟩
       replace H : (if 0 ≤ (ji16) then (if (ji16) < (t892.length : Int) then (if (rd t892 (ji16)) = a0_1 then (tenorlaw8_SchedEnds.j0 k t892 (decide ((t892.length : Int) > 1201)) a0_0 a0_1 a0_2 a0_3 a0_4 a0_5 a0_6 a0_7 a0_8 l0_9) else (tenorlaw8_SchedEnds.j0 k t892 true a0_0 a0_1 a0_2 a0_3 a0_4 a0_5 a0_6 a0_7 a0_8 l0_9)) else (none)) else (none)) = some r := by first | (rw [hji16] at H; exact H) | (simp only [hji16] at H ⊢; exact H)
       have hji16w : (IntKind.i64.wrap ((t892.length : Int) - 1)) = ji16 := (i64_w _).trans hji16
       by_cases c17 : 0 ≤ (ji16)
       ·
        rw [if_pos c17] at H
        have c17b0 : decide (0 ≤ (ji16)) = true := decide_eq_true c17
        clear c17
        by_cases c18 : (ji16) < (t892.length : Int)
        ·
         rw [if_pos c18] at H
         have c18b0 : decide ((ji16) < (t892.length : Int)) = true := decide_eq_true c18
         clear c18
         by_cases c19 : (rd t892 (ji16)) = a0_1
         ·
          rw [if_pos c19] at H
          have c19b0 : ((rd t892 (ji16)) == a0_1) = true := beq_iff_eq.mpr c19
          have c19b1 : ((rd t892 (ji16)) != a0_1) = false := bne_eq_false_iff_eq.mpr c19
          clear c19;have H' := Aside0.mk H;clear H
          obtain ⟨Ao20, co20, eo20⟩ := Kd.R_slice HO894.out
          subst eo20
          have p897 : 0 ≤ (0 : Int) := (by omega)
          have q897 : 0 < (t892.length : Int) := of_decide_eq_true (by first | (with_reducible assumption) | assumption)
          obtain ⟨ad897, e897, hx897_0⟩ := Kd.at_int (Kd.R_reads' HO894.out).2.2 0 p897 q897
          cases e897
          have qi897 : (0 < t892.length) = True := eq_true (by omega)
          (try rw [show ((0 : Int)).toNat = 0 from rfl] at hx897_0)
          (try rw [Addr.add_zero'] at hx897_0)
          replace p897 := eq_true p897;replace q897 := eq_true q897
          have hcz21_0 : w11.cell? ⟨gb889, 0, none⟩ = some (.int .i64 a0_0) := (blk_cell BK889.out 0).trans rfl
          have hcz21_1 : w11.cell? ⟨gb889, 1, none⟩ = some (.int .i64 a0_1) := (blk_cell BK889.out 1).trans rfl
          have hcz21_2 : w11.cell? ⟨gb889, 2, none⟩ = some (.int .i64 a0_2) := (blk_cell BK889.out 2).trans rfl
          have hcz21_3 : w11.cell? ⟨gb889, 3, none⟩ = some (.int .i64 a0_3) := (blk_cell BK889.out 3).trans rfl
          have hcz21_4 : w11.cell? ⟨gb889, 4, none⟩ = some (.int .i64 a0_4) := (blk_cell BK889.out 4).trans rfl
          have hcz21_5 : w11.cell? ⟨gb889, 5, none⟩ = some (.int .i64 a0_5) := (blk_cell BK889.out 5).trans rfl
          have hcz21_6 : w11.cell? ⟨gb889, 6, none⟩ = some (.int .i64 a0_6) := (blk_cell BK889.out 6).trans rfl
          have hcz21_7 : w11.cell? ⟨gb889, 7, none⟩ = some (.int .i64 a0_7) := (blk_cell BK889.out 7).trans rfl
          have hcz21_8 : w11.cell? ⟨gb889, 8, none⟩ = some (.int .i64 a0_8) := (blk_cell BK889.out 8).trans rfl
          have hcz21_9 : w11.cell? ⟨gb889, 9, none⟩ = some (.slice A0_9 l0_9.length c0_9) := (blk_cell BK889.out 9).trans rfl
          have hfz21_0 := blk_frozen BK889.out 0;have hfz21_1 := blk_frozen BK889.out 1;have hfz21_2 := blk_frozen BK889.out 2;have hfz21_3 := blk_frozen BK889.out 3;have hfz21_4 := blk_frozen BK889.out 4;have hfz21_5 := blk_frozen BK889.out 5;have hfz21_6 := blk_frozen BK889.out 6;have hfz21_7 := blk_frozen BK889.out 7;have hfz21_8 := blk_frozen BK889.out 8;have hfz21_9 := blk_frozen BK889.out 9
          have p898 : 0 ≤ ((ji16) : Int) := of_decide_eq_true (by first | (with_reducible assumption) | assumption)
          have q898 : (ji16) < (t892.length : Int) := of_decide_eq_true (by first | (with_reducible assumption) | assumption)
          obtain ⟨ad898, e898, hx898_0⟩ := Kd.at_int (Kd.R_reads' HO894.out).2.2 (ji16) p898 q898
          obtain rfl : ad897 = ad898 := (by injection e898)
          replace p898 := eq_true p898;replace q898 := eq_true q898
          go_wp2
          repeat (go_quiet (fail); try go_wp2)
          go_meet
          case rel => exact ⟨_, (decide ((t892.length : Int) > 1201)), (by first | rfl | (simp; done) | (simp [*]; done)), H', ⟨by first | omega | exact Nat.le_refl _⟩, ⟨by (with_reducible repeat (first | apply Kd.R_alloc | apply Kd.R_drewN | apply Kd.R_drew)); exact HO894.out⟩, ⟨by (with_reducible repeat (first | refine blk_drewN ?_ _ | refine blk_drew ?_ | refine blk_alloc ?_ _)); exact BK889.out⟩, ⟨by repeat (first | (with_reducible first | exact HB.out | apply below_alloc | apply pw_below_drewN | apply below_drew1 | refine below_set ?_ GE889.out) | exact HB.out)⟩⟩
         ·
          rw [if_neg c19] at H
          have c19b0 : ((rd t892 (ji16)) == a0_1) = false := beq_eq_false_iff_ne.mpr c19
          have c19b1 : ((rd t892 (ji16)) != a0_1) = true := bne_iff_ne.mpr c19
          have H' := Aside0.mk H;clear H
          obtain ⟨Ao22, co22, eo22⟩ := Kd.R_slice HO894.out
          subst eo22
          have p897 : 0 ≤ (0 : Int) := (by omega)
          have q897 : 0 < (t892.length : Int) := of_decide_eq_true (by first | (with_reducible assumption) | assumption)
          obtain ⟨ad897, e897, hx897_0⟩ := Kd.at_int (Kd.R_reads' HO894.out).2.2 0 p897 q897
          cases e897
          have qi897 : (0 < t892.length) = True := eq_true (by omega)
          (try rw [show ((0 : Int)).toNat = 0 from rfl] at hx897_0)
          (try rw [Addr.add_zero'] at hx897_0)
          replace p897 := eq_true p897;replace q897 := eq_true q897
          have hcz23_0 : w11.cell? ⟨gb889, 0, none⟩ = some (.int .i64 a0_0) := (blk_cell BK889.out 0).trans rfl
          have hcz23_1 : w11.cell? ⟨gb889, 1, none⟩ = some (.int .i64 a0_1) := (blk_cell BK889.out 1).trans rfl
          have hcz23_2 : w11.cell? ⟨gb889, 2, none⟩ = some (.int .i64 a0_2) := (blk_cell BK889.out 2).trans rfl
          have hcz23_3 : w11.cell? ⟨gb889, 3, none⟩ = some (.int .i64 a0_3) := (blk_cell BK889.out 3).trans rfl
          have hcz23_4 : w11.cell? ⟨gb889, 4, none⟩ = some (.int .i64 a0_4) := (blk_cell BK889.out 4).trans rfl
          have hcz23_5 : w11.cell? ⟨gb889, 5, none⟩ = some (.int .i64 a0_5) := (blk_cell BK889.out 5).trans rfl
          have hcz23_6 : w11.cell? ⟨gb889, 6, none⟩ = some (.int .i64 a0_6) := (blk_cell BK889.out 6).trans rfl
          have hcz23_7 : w11.cell? ⟨gb889, 7, none⟩ = some (.int .i64 a0_7) := (blk_cell BK889.out 7).trans rfl
          have hcz23_8 : w11.cell? ⟨gb889, 8, none⟩ = some (.int .i64 a0_8) := (blk_cell BK889.out 8).trans rfl
          have hcz23_9 : w11.cell? ⟨gb889, 9, none⟩ = some (.slice A0_9 l0_9.length c0_9) := (blk_cell BK889.out 9).trans rfl
          have hfz23_0 := blk_frozen BK889.out 0;have hfz23_1 := blk_frozen BK889.out 1;have hfz23_2 := blk_frozen BK889.out 2;have hfz23_3 := blk_frozen BK889.out 3;have hfz23_4 := blk_frozen BK889.out 4;have hfz23_5 := blk_frozen BK889.out 5;have hfz23_6 := blk_frozen BK889.out 6;have hfz23_7 := blk_frozen BK889.out 7;have hfz23_8 := blk_frozen BK889.out 8;have hfz23_9 := blk_frozen BK889.out 9
          have p898 : 0 ≤ ((ji16) : Int) := of_decide_eq_true (by first | (with_reducible assumption) | assumption)
          have q898 : (ji16) < (t892.length : Int) := of_decide_eq_true (by first | (with_reducible assumption) | assumption)
          obtain ⟨ad898, e898, hx898_0⟩ := Kd.at_int (Kd.R_reads' HO894.out).2.2 (ji16) p898 q898
          obtain rfl : ad897 = ad898 := (by injection e898)
          replace p898 := eq_true p898;replace q898 := eq_true q898
          go_wp2
          repeat (go_quiet (fail); try go_wp2)
          go_meet
          case rel => exact ⟨_, (true), (by first | rfl | (simp; done) | (simp [*]; done)), H', ⟨by first | omega | exact Nat.le_refl _⟩, ⟨by (with_reducible repeat (first | apply Kd.R_alloc | apply Kd.R_drewN | apply Kd.R_drew)); exact HO894.out⟩, ⟨by (with_reducible repeat (first | refine blk_drewN ?_ _ | refine blk_drew ?_ | refine blk_alloc ?_ _)); exact BK889.out⟩, ⟨by repeat (first | (with_reducible first | exact HB.out | apply below_alloc | apply pw_below_drewN | apply below_drew1 | refine below_set ?_ GE889.out) | exact HB.out)⟩⟩
        ·
         rw [if_neg c18] at H
         exact absurd H (by simp)
       ·
        rw [if_neg c17] at H
        exact absurd H (by simp)
      ·
       rw [if_neg c15] at H
       have c15b0 : ((rd t892 0) == a0_0) = false := beq_eq_false_iff_ne.mpr c15
       have c15b1 : ((rd t892 0) != a0_0) = true := bne_iff_ne.mpr c15
       have H' := Aside0.mk H;clear H
       obtain ⟨Ao24, co24, eo24⟩ := Kd.R_slice HO894.out
       subst eo24
       have p897 : 0 ≤ (0 : Int) := (by omega)
       have q897 : 0 < (t892.length : Int) := of_decide_eq_true (by first | (with_reducible assumption) | assumption)
       obtain ⟨ad897, e897, hx897_0⟩ := Kd.at_int (Kd.R_reads' HO894.out).2.2 0 p897 q897
       cases e897
       have qi897 : (0 < t892.length) = True := eq_true (by omega)
       (try rw [show ((0 : Int)).toNat = 0 from rfl] at hx897_0)
       (try rw [Addr.add_zero'] at hx897_0)
       replace p897 := eq_true p897;replace q897 := eq_true q897
       have hcz25_0 : w11.cell? ⟨gb889, 0, none⟩ = some (.int .i64 a0_0) := (blk_cell BK889.out 0).trans rfl
       have hcz25_1 : w11.cell? ⟨gb889, 1, none⟩ = some (.int .i64 a0_1) := (blk_cell BK889.out 1).trans rfl
       have hcz25_2 : w11.cell? ⟨gb889, 2, none⟩ = some (.int .i64 a0_2) := (blk_cell BK889.out 2).trans rfl
       have hcz25_3 : w11.cell? ⟨gb889, 3, none⟩ = some (.int .i64 a0_3) := (blk_cell BK889.out 3).trans rfl
       have hcz25_4 : w11.cell? ⟨gb889, 4, none⟩ = some (.int .i64 a0_4) := (blk_cell BK889.out 4).trans rfl
       have hcz25_5 : w11.cell? ⟨gb889, 5, none⟩ = some (.int .i64 a0_5) := (blk_cell BK889.out 5).trans rfl
       have hcz25_6 : w11.cell? ⟨gb889, 6, none⟩ = some (.int .i64 a0_6) := (blk_cell BK889.out 6).trans rfl
       have hcz25_7 : w11.cell? ⟨gb889, 7, none⟩ = some (.int .i64 a0_7) := (blk_cell BK889.out 7).trans rfl
       have hcz25_8 : w11.cell? ⟨gb889, 8, none⟩ = some (.int .i64 a0_8) := (blk_cell BK889.out 8).trans rfl
       have hcz25_9 : w11.cell? ⟨gb889, 9, none⟩ = some (.slice A0_9 l0_9.length c0_9) := (blk_cell BK889.out 9).trans rfl
       have hfz25_0 := blk_frozen BK889.out 0;have hfz25_1 := blk_frozen BK889.out 1;have hfz25_2 := blk_frozen BK889.out 2;have hfz25_3 := blk_frozen BK889.out 3;have hfz25_4 := blk_frozen BK889.out 4;have hfz25_5 := blk_frozen BK889.out 5;have hfz25_6 := blk_frozen BK889.out 6;have hfz25_7 := blk_frozen BK889.out 7;have hfz25_8 := blk_frozen BK889.out 8;have hfz25_9 := blk_frozen BK889.out 9
       go_wp2
       repeat (go_quiet (fail); try go_wp2)
       go_meet
       case rel => exact ⟨_, (true), (by first | rfl | (simp; done) | (simp [*]; done)), H', ⟨by first | omega | exact Nat.le_refl _⟩, ⟨by (with_reducible repeat (first | apply Kd.R_alloc | apply Kd.R_drewN | apply Kd.R_drew)); exact HO894.out⟩, ⟨by (with_reducible repeat (first | refine blk_drewN ?_ _ | refine blk_drew ?_ | refine blk_alloc ?_ _)); exact BK889.out⟩, ⟨by repeat (first | (with_reducible first | exact HB.out | apply below_alloc | apply pw_below_drewN | apply below_drew1 | refine below_set ?_ GE889.out) | exact HB.out)⟩⟩
     ·
      rw [if_neg c14] at H
      exact absurd H (by simp)
   case rest =>
    clear HC6
    obtain ⟨kq, x52_5, rfl, HA, HJ5, HO_3, BK889, HB⟩ := hcut
    cases kq with
    | zero => exact absurd HA.out (by simp [tenorlaw8_SchedEnds.j0])
    | succ kj5 =>
     have H := HA.out;clear HA
     simp only [tenorlaw8_SchedEnds.j0] at H
     by_cases c26 : x52_5 = true
     ·
      subst c26
      have H1 : (some false) = some r := by rw [if_pos rfl] at H; exact H
      clear H;have H := H1;clear H1
      exact absurd (H.trans (congrArg some HT)) (by decide)
     ·
      replace c26 := Bool.eq_false_iff.mpr c26;subst c26
      have H1 : (tenorlaw8_SchedEnds.l0 kj5 t892 1 a0_0 a0_1 a0_2 a0_3 a0_4 a0_5 a0_6 a0_7 a0_8 l0_9) = some r := by rw [if_neg (show ¬ (false = true) by decide)] at H; exact H
      clear H;have H := H1;clear H1;have H' := Aside0.mk H;clear H
      go_wp2
      repeat (go_quiet (fail); try go_wp2)
      go_loopg [5] kj5 (fun kq v5 w' => ∃ (x5_2 : Int), v5 = .int .i64 x5_2 ∧ Aside0 (tenorlaw8_SchedEnds.l0 kq t892 x5_2 a0_0 a0_1 a0_2 a0_3 a0_4 a0_5 a0_6 a0_7 a0_8 l0_9 = some r) ∧ Aside0 (kq ≤ kj5) ∧ Aside0 (Kd.R (Kd.int .i64) 3 w' w.heap.size (fun _ => True) v893 t892) ∧ Aside0 (w'.heap[gb889]? = some (.cells #[.int .i64 a0_0, .int .i64 a0_1, .int .i64 a0_2, .int .i64 a0_3, .int .i64 a0_4, .int .i64 a0_5, .int .i64 a0_6, .int .i64 a0_7, .int .i64 a0_8, (.slice A0_9 l0_9.length c0_9)] 66 (0, 0))) ∧ Aside0 (Below w.heap.size w w'))
      case atStart => exact ⟨(1), (by first | rfl | (simp; done) | (simp [*]; done)), H', ⟨Nat.le_refl _⟩, ⟨by (with_reducible repeat (first | apply Kd.R_alloc | apply Kd.R_drewN | apply Kd.R_drew)); exact HO_3.out⟩, ⟨by (with_reducible repeat (first | refine blk_drewN ?_ _ | refine blk_drew ?_ | refine blk_alloc ?_ _)); exact BK889.out⟩, ⟨by repeat (first | (with_reducible first | exact HB.out | apply below_alloc | apply pw_below_drewN | apply below_drew1 | refine below_set ?_ GE889.out) | exact HB.out)⟩⟩
      case round =>
       clear H'
       obtain ⟨x5_2, rfl, HA, HK2, HO_3, BK889, HB⟩ := hrel
       cases gk with
       | zero => exact absurd HA.out (by simp [tenorlaw8_SchedEnds.l0])
       | succ k2 =>
        have H := HA.out;clear HA
        simp only [tenorlaw8_SchedEnds.l0] at H
        by_cases c27 : x5_2 < (t892.length : Int)
        ·
         rw [if_pos c27] at H
         have c27b0 : decide (x5_2 < (t892.length : Int)) = true := decide_eq_true c27
         clear c27
         by_cases c28 : 0 ≤ x5_2
         ·
          rw [if_pos c28] at H
          have c28b0 : decide (0 ≤ x5_2) = true := decide_eq_true c28
          clear c28
          obtain ⟨ji29, hji29⟩ : ∃ j_ : Int, (wrap64 (x5_2 - 1)) = j_ := ⟨_, rfl⟩
          replace H : (if 0 ≤ (ji29) then (if (ji29) < (t892.length : Int) then (if (rd t892 x5_2) ≤ (rd t892 (ji29)) then (some false) else (tenorlaw8_SchedEnds.l0 k2 t892 (wrap64 (x5_2 + 1)) a0_0 a0_1 a0_2 a0_3 a0_4 a0_5 a0_6 a0_7 a0_8 l0_9)) else (none)) else (none)) = some r := by first | (rw [hji29] at H; exact H) | (simp only [hji29] at H ⊢; exact H)
          have hji29w : (IntKind.i64.wrap (x5_2 - 1)) = ji29 := (i64_w _).trans hji29
          by_cases c30 : 0 ≤ (ji29)
          ·
           rw [if_pos c30] at H
           have c30b0 : decide (0 ≤ (ji29)) = true := decide_eq_true c30
           clear c30
           by_cases c31 : (ji29) < (t892.length : Int)
           ·
            rw [if_pos c31] at H
            have c31b0 : decide ((ji29) < (t892.length : Int)) = true := decide_eq_true c31
            clear c31
            by_cases c32 : (rd t892 x5_2) ≤ (rd t892 (ji29))
            ·
             rw [if_pos c32] at H
             have c32b0 : decide ((rd t892 x5_2) ≤ (rd t892 (ji29))) = true := decide_eq_true c32
             clear c32
             exact absurd (H.trans (congrArg some HT)) (by decide)
            ·
             rw [if_neg c32] at H
             have c32b0 : decide ((rd t892 x5_2) ≤ (rd t892 (ji29))) = false := decide_eq_false c32
             clear c32;have H' := Aside0.mk H;clear H
             obtain ⟨Ao34, co34, eo34⟩ := Kd.R_slice HO_3.out
             subst eo34
             have p899 : 0 ≤ (x5_2 : Int) := of_decide_eq_true (by first | (with_reducible assumption) | assumption)
             have q899 : x5_2 < (t892.length : Int) := of_decide_eq_true (by first | (with_reducible assumption) | assumption)
             obtain ⟨ad899, e899, hx899_0⟩ := Kd.at_int (Kd.R_reads' HO_3.out).2.2 x5_2 p899 q899
             cases e899
             replace p899 := eq_true p899;replace q899 := eq_true q899
             have p900 : 0 ≤ ((ji29) : Int) := of_decide_eq_true (by first | (with_reducible assumption) | assumption)
             have q900 : (ji29) < (t892.length : Int) := of_decide_eq_true (by first | (with_reducible assumption) | assumption)
             obtain ⟨ad900, e900, hx900_0⟩ := Kd.at_int (Kd.R_reads' HO_3.out).2.2 (ji29) p900 q900
             obtain rfl : ad899 = ad900 := (by injection e900)
             replace p900 := eq_true p900;replace q900 := eq_true q900
             go_wp2
             repeat (go_quiet (fail); try go_wp2)
             go_roundg k2
             case measure => have := HJ5.out; have := HK2.out; omega
             case rel => exact ⟨(wrap64 (x5_2 + 1)), (by first | rfl | (simp; done) | (simp [*]; done)), H', ⟨by have := HJ5.out; have := HK2.out; omega⟩, ⟨by (with_reducible repeat (first | apply Kd.R_alloc | apply Kd.R_drewN | apply Kd.R_drew)); exact HO_3.out⟩, ⟨by (with_reducible repeat (first | refine blk_drewN ?_ _ | refine blk_drew ?_ | refine blk_alloc ?_ _)); exact BK889.out⟩, ⟨by repeat (first | (with_reducible first | exact HB.out | apply below_alloc | apply pw_below_drewN | apply below_drew1 | refine below_set ?_ GE889.out) | exact HB.out)⟩⟩
           ·
            rw [if_neg c31] at H
            exact absurd H (by simp)
          ·
           rw [if_neg c30] at H
           exact absurd H (by simp)
         ·
          rw [if_neg c28] at H
          exact absurd H (by simp)
        ·
         rw [if_neg c27] at H
         have c27b0 : decide (x5_2 < (t892.length : Int)) = false := decide_eq_false c27
         clear c27;replace H := Option.bind_eq_some_iff.mp H
         obtain ⟨⟨t901, t904⟩, A350, H⟩ := H
         replace H : (if t904 = 0 then (if (t901.length : Int) = (wrap64 ((t892.length : Int) - 1)) then (tenorlaw8_SchedEnds.l1 k2 t892 t901 0 a0_0 a0_1 a0_2 a0_3 a0_4 a0_5 a0_6 a0_7 a0_8 l0_9) else (some false)) else (if t904 = 51 then (if (t901.length : Int) = 0 then ((tenorlaw8_awake.f k2).bind fun t905 => (some t905)) else (some false)) else (some false))) = some r := H
         have A35 := Aside0.mk A350;clear A350
         by_cases c36 : t904 = 0
         ·
          rw [if_pos c36] at H
          have c36b0 : (t904 == 0) = true := beq_iff_eq.mpr c36
          have c36b1 : (t904 != 0) = false := bne_eq_false_iff_eq.mpr c36
          clear c36
          by_cases c37 : (t901.length : Int) = (wrap64 ((t892.length : Int) - 1))
          ·
           rw [if_pos c37] at H
           have c37b0 : ((t901.length : Int) == (wrap64 ((t892.length : Int) - 1))) = true := beq_iff_eq.mpr c37
           have c37b1 : ((t901.length : Int) != (wrap64 ((t892.length : Int) - 1))) = false := bne_eq_false_iff_eq.mpr c37
           clear c37;have H' := Aside0.mk H;clear H
           obtain ⟨Ao38, co38, eo38⟩ := Kd.R_slice HO_3.out
           subst eo38
           have hcz39_0 : wr.cell? ⟨gb889, 0, none⟩ = some (.int .i64 a0_0) := (blk_cell BK889.out 0).trans rfl
           have hcz39_1 : wr.cell? ⟨gb889, 1, none⟩ = some (.int .i64 a0_1) := (blk_cell BK889.out 1).trans rfl
           have hcz39_2 : wr.cell? ⟨gb889, 2, none⟩ = some (.int .i64 a0_2) := (blk_cell BK889.out 2).trans rfl
           have hcz39_3 : wr.cell? ⟨gb889, 3, none⟩ = some (.int .i64 a0_3) := (blk_cell BK889.out 3).trans rfl
           have hcz39_4 : wr.cell? ⟨gb889, 4, none⟩ = some (.int .i64 a0_4) := (blk_cell BK889.out 4).trans rfl
           have hcz39_5 : wr.cell? ⟨gb889, 5, none⟩ = some (.int .i64 a0_5) := (blk_cell BK889.out 5).trans rfl
           have hcz39_6 : wr.cell? ⟨gb889, 6, none⟩ = some (.int .i64 a0_6) := (blk_cell BK889.out 6).trans rfl
           have hcz39_7 : wr.cell? ⟨gb889, 7, none⟩ = some (.int .i64 a0_7) := (blk_cell BK889.out 7).trans rfl
           have hcz39_8 : wr.cell? ⟨gb889, 8, none⟩ = some (.int .i64 a0_8) := (blk_cell BK889.out 8).trans rfl
           have hcz39_9 : wr.cell? ⟨gb889, 9, none⟩ = some (.slice A0_9 l0_9.length c0_9) := (blk_cell BK889.out 9).trans rfl
           have hfz39_0 := blk_frozen BK889.out 0;have hfz39_1 := blk_frozen BK889.out 1;have hfz39_2 := blk_frozen BK889.out 2;have hfz39_3 := blk_frozen BK889.out 3;have hfz39_4 := blk_frozen BK889.out 4;have hfz39_5 := blk_frozen BK889.out 5;have hfz39_6 := blk_frozen BK889.out 6;have hfz39_7 := blk_frozen BK889.out 7;have hfz39_8 := blk_frozen BK889.out 8;have hfz39_9 := blk_frozen BK889.out 9
           go_wp2_with (first | (go_at_call 54; (with_reducible refine (sched_Periods.calls k2 a0_0 a0_1 a0_2 a0_3 a0_4 a0_5 a0_6 a0_7 a0_8 _ _ l0_9 t901 t904 _ ?side1 ?side2 A35.out).mono ?_); (case side1 => repeat (first | exact (Kd.C_below HR0_9.out HB.out) | (with_reducible refine Kd.C_alloc ?_ _) | (with_reducible refine Kd.C_drewN ?_ _) | (with_reducible refine Kd.C_drew ?_))); (case side2 => exact HC0_9.out); rintro e w40 ⟨v902, rfl, ho0, hb⟩; have n0_ := Aside0.mk (Kd.R_below (by (with_reducible repeat (first | apply Kd.R_alloc | apply Kd.R_drewN | apply Kd.R_drew)); exact HO_3.out) hb); have n1_ := Aside0.mk (Kd.R_lower ho0 (below_size (by repeat (first | (with_reducible first | exact HB.out | apply below_alloc | apply pw_below_drewN | apply below_drew1 | refine below_set ?_ GE889.out) | exact HB.out)))); have n2_ := Aside0.mk (blk_below (g := gb889) (o := .cells #[.int .i64 a0_0, .int .i64 a0_1, .int .i64 a0_2, .int .i64 a0_3, .int .i64 a0_4, .int .i64 a0_5, .int .i64 a0_6, .int .i64 a0_7, .int .i64 a0_8, .slice A0_9 l0_9.length c0_9] 66 (0, 0)) (by (with_reducible repeat (first | refine blk_drewN ?_ _ | refine blk_drew ?_ | refine blk_alloc ?_ _)); exact BK889.out) hb); have n3_ := Aside0.mk (below_step (by repeat (first | (with_reducible first | exact HB.out | apply below_alloc | apply pw_below_drewN | apply below_drew1 | refine below_set ?_ GE889.out) | exact HB.out)) hb); clear HO_3; clear BK889; clear HB; have HO_3 := n0_; have HO903 := n1_; have BK889 := n2_; have HB := n3_; clear n0_ n1_ n2_ n3_; (try clear hb); (try clear hb2); (try clear hk); (try clear hi); (try clear ho0); obtain ⟨Ao41, co41, eo41⟩ := Kd.R_slice HO903.out; subst eo41))
           repeat (go_quiet (first | (go_at_call 54; (with_reducible refine (sched_Periods.calls k2 a0_0 a0_1 a0_2 a0_3 a0_4 a0_5 a0_6 a0_7 a0_8 _ _ l0_9 t901 t904 _ ?side1 ?side2 A35.out).mono ?_); (case side1 => repeat (first | exact (Kd.C_below HR0_9.out HB.out) | (with_reducible refine Kd.C_alloc ?_ _) | (with_reducible refine Kd.C_drewN ?_ _) | (with_reducible refine Kd.C_drew ?_))); (case side2 => exact HC0_9.out); rintro e w40 ⟨v902, rfl, ho0, hb⟩; have n0_ := Aside0.mk (Kd.R_below (by (with_reducible repeat (first | apply Kd.R_alloc | apply Kd.R_drewN | apply Kd.R_drew)); exact HO_3.out) hb); have n1_ := Aside0.mk (Kd.R_lower ho0 (below_size (by repeat (first | (with_reducible first | exact HB.out | apply below_alloc | apply pw_below_drewN | apply below_drew1 | refine below_set ?_ GE889.out) | exact HB.out)))); have n2_ := Aside0.mk (blk_below (g := gb889) (o := .cells #[.int .i64 a0_0, .int .i64 a0_1, .int .i64 a0_2, .int .i64 a0_3, .int .i64 a0_4, .int .i64 a0_5, .int .i64 a0_6, .int .i64 a0_7, .int .i64 a0_8, .slice A0_9 l0_9.length c0_9] 66 (0, 0)) (by (with_reducible repeat (first | refine blk_drewN ?_ _ | refine blk_drew ?_ | refine blk_alloc ?_ _)); exact BK889.out) hb); have n3_ := Aside0.mk (below_step (by repeat (first | (with_reducible first | exact HB.out | apply below_alloc | apply pw_below_drewN | apply below_drew1 | refine below_set ?_ GE889.out) | exact HB.out)) hb); clear HO_3; clear BK889; clear HB; have HO_3 := n0_; have HO903 := n1_; have BK889 := n2_; have HB := n3_; clear n0_ n1_ n2_ n3_; (try clear hb); (try clear hb2); (try clear hk); (try clear hi); (try clear ho0); obtain ⟨Ao41, co41, eo41⟩ := Kd.R_slice HO903.out; subst eo41)); try go_wp2_with (first | (go_at_call 54; (with_reducible refine (sched_Periods.calls k2 a0_0 a0_1 a0_2 a0_3 a0_4 a0_5 a0_6 a0_7 a0_8 _ _ l0_9 t901 t904 _ ?side1 ?side2 A35.out).mono ?_); (case side1 => repeat (first | exact (Kd.C_below HR0_9.out HB.out) | (with_reducible refine Kd.C_alloc ?_ _) | (with_reducible refine Kd.C_drewN ?_ _) | (with_reducible refine Kd.C_drew ?_))); (case side2 => exact HC0_9.out); rintro e w40 ⟨v902, rfl, ho0, hb⟩; have n0_ := Aside0.mk (Kd.R_below (by (with_reducible repeat (first | apply Kd.R_alloc | apply Kd.R_drewN | apply Kd.R_drew)); exact HO_3.out) hb); have n1_ := Aside0.mk (Kd.R_lower ho0 (below_size (by repeat (first | (with_reducible first | exact HB.out | apply below_alloc | apply pw_below_drewN | apply below_drew1 | refine below_set ?_ GE889.out) | exact HB.out)))); have n2_ := Aside0.mk (blk_below (g := gb889) (o := .cells #[.int .i64 a0_0, .int .i64 a0_1, .int .i64 a0_2, .int .i64 a0_3, .int .i64 a0_4, .int .i64 a0_5, .int .i64 a0_6, .int .i64 a0_7, .int .i64 a0_8, .slice A0_9 l0_9.length c0_9] 66 (0, 0)) (by (with_reducible repeat (first | refine blk_drewN ?_ _ | refine blk_drew ?_ | refine blk_alloc ?_ _)); exact BK889.out) hb); have n3_ := Aside0.mk (below_step (by repeat (first | (with_reducible first | exact HB.out | apply below_alloc | apply pw_below_drewN | apply below_drew1 | refine below_set ?_ GE889.out) | exact HB.out)) hb); clear HO_3; clear BK889; clear HB; have HO_3 := n0_; have HO903 := n1_; have BK889 := n2_; have HB := n3_; clear n0_ n1_ n2_ n3_; (try clear hb); (try clear hb2); (try clear hk); (try clear hi); (try clear ho0); obtain ⟨Ao41, co41, eo41⟩ := Kd.R_slice HO903.out; subst eo41)))
           go_loopg [8] k2 (fun kq v8 w' => ∃ (x8_3 : Int), v8 = .int .i64 x8_3 ∧ Aside0 (tenorlaw8_SchedEnds.l1 kq t892 t901 x8_3 a0_0 a0_1 a0_2 a0_3 a0_4 a0_5 a0_6 a0_7 a0_8 l0_9 = some r) ∧ Aside0 (kq ≤ k2) ∧ Aside0 (Kd.R (Kd.int .i64) 3 w' w.heap.size (fun _ => True) (.slice Ao38 t892.length co38) t892) ∧ Aside0 (Kd.R k81 81 w' w.heap.size (fun _ => True) (.slice Ao41 t901.length co41) t901) ∧ Aside0 (w'.heap[gb889]? = some (.cells #[.int .i64 a0_0, .int .i64 a0_1, .int .i64 a0_2, .int .i64 a0_3, .int .i64 a0_4, .int .i64 a0_5, .int .i64 a0_6, .int .i64 a0_7, .int .i64 a0_8, (.slice A0_9 l0_9.length c0_9)] 66 (0, 0))) ∧ Aside0 (Below w.heap.size w w'))
           case atStart => exact ⟨(0), (by first | rfl | (simp; done) | (simp [*]; done)), H', ⟨Nat.le_refl _⟩, ⟨by (with_reducible repeat (first | apply Kd.R_alloc | apply Kd.R_drewN | apply Kd.R_drew)); exact HO_3.out⟩, ⟨by (with_reducible repeat (first | apply Kd.R_alloc | apply Kd.R_drewN | apply Kd.R_drew)); exact HO903.out⟩, ⟨by (with_reducible repeat (first | refine blk_drewN ?_ _ | refine blk_drew ?_ | refine blk_alloc ?_ _)); exact BK889.out⟩, ⟨by repeat (first | (with_reducible first | exact HB.out | apply below_alloc | apply pw_below_drewN | apply below_drew1 | refine below_set ?_ GE889.out) | exact HB.out)⟩⟩
           case round =>
            clear H'
            obtain ⟨x8_3, rfl, HA, HK3, HO_3, HO_6, BK889, HB⟩ := hrel
            cases gk with
            | zero => exact absurd HA.out (by simp [tenorlaw8_SchedEnds.l1])
            | succ k3 =>
             have H := HA.out;clear HA
             simp only [tenorlaw8_SchedEnds.l1] at H
             by_cases c42 : x8_3 < (t901.length : Int)
             ·
              rw [if_pos c42] at H
              have c42b0 : decide (x8_3 < (t901.length : Int)) = true := decide_eq_true c42
              clear c42
              by_cases c43 : 0 ≤ x8_3
              ·
               rw [if_pos c43] at H
               have c43b0 : decide (0 ≤ x8_3) = true := decide_eq_true c43
               clear c43
               by_cases c44 : x8_3 < (t892.length : Int)
               ·
                rw [if_pos c44] at H
                have c44b0 : decide (x8_3 < (t892.length : Int)) = true := decide_eq_true c44
                clear c44
                by_cases c45 : ((rd_T81 t901 x8_3).f0) = (rd t892 x8_3)
                ·
                 rw [if_pos c45] at H
                 have c45b0 : (((rd_T81 t901 x8_3).f0) == (rd t892 x8_3)) = true := beq_iff_eq.mpr c45
                 have c45b1 : (((rd_T81 t901 x8_3).f0) != (rd t892 x8_3)) = false := bne_eq_false_iff_eq.mpr c45
                 clear c45
                 obtain ⟨ji46, hji46⟩ : ∃ j_ : Int, (wrap64 (x8_3 + 1)) = j_ := ⟨_, rfl⟩
                 replace H : (if 0 ≤ (ji46) then (if (ji46) < (t892.length : Int) then (if ((rd_T81 t901 x8_3).f1) = (rd t892 (ji46)) then (if x8_3 > 0 then (if 0 ≤ (wrap64 (x8_3 - 1)) then (if (wrap64 (x8_3 - 1)) < (t901.length : Int) then (if ((rd_T81 t901 x8_3).f2) = ((rd_T81 t901 (wrap64 (x8_3 - 1))).f3) then (if ((rd_T81 t901 x8_3).f2) > ((rd_T81 t901 x8_3).f3) then (if a0_6 = 0 then (some false) else (if a0_7 = 0 then (if ((rd_T81 t901 x8_3).f4) = ((rd_T81 t901 x8_3).f3) then (if a0_7 > 0 then (if ((rd_T81 t901 x8_3).f4) ≤ ((rd_T81 t901 x8_3).f3) then (some false) else (tenorlaw8_SchedEnds.l1 k3 t892 t901 ji46 a0_0 a0_1 a0_2 a0_3 a0_4 a0_5 a0_6 a0_7 a0_8 l0_9)) else (tenorlaw8_SchedEnds.l1 k3 t892 t901 ji46 a0_0 a0_1 a0_2 a0_3 a0_4 a0_5 a0_6 a0_7 a0_8 l0_9)) else (some false)) else (if a0_7 > 0 then (if ((rd_T81 t901 x8_3).f4) ≤ ((rd_T81 t901 x8_3).f3) then (some false) else (tenorlaw8_SchedEnds.l1 k3 t892 t901 ji46 a0_0 a0_1 a0_2 a0_3 a0_4 a0_5 a0_6 a0_7 a0_8 l0_9)) else (tenorlaw8_SchedEnds.l1 k3 t892 t901 ji46 a0_0 a0_1 a0_2 a0_3 a0_4 a0_5 a0_6 a0_7 a0_8 l0_9)))) else (if a0_7 = 0 then (if ((rd_T81 t901 x8_3).f4) = ((rd_T81 t901 x8_3).f3) then (if a0_7 > 0 then (if ((rd_T81 t901 x8_3).f4) ≤ ((rd_T81 t901 x8_3).f3) then (some false) else (tenorlaw8_SchedEnds.l1 k3 t892 t901 ji46 a0_0 a0_1 a0_2 a0_3 a0_4 a0_5 a0_6 a0_7 a0_8 l0_9)) else (tenorlaw8_SchedEnds.l1 k3 t892 t901 ji46 a0_0 a0_1 a0_2 a0_3 a0_4 a0_5 a0_6 a0_7 a0_8 l0_9)) else (some false)) else (if a0_7 > 0 then (if ((rd_T81 t901 x8_3).f4) ≤ ((rd_T81 t901 x8_3).f3) then (some false) else (tenorlaw8_SchedEnds.l1 k3 t892 t901 ji46 a0_0 a0_1 a0_2 a0_3 a0_4 a0_5 a0_6 a0_7 a0_8 l0_9)) else (tenorlaw8_SchedEnds.l1 k3 t892 t901 ji46 a0_0 a0_1 a0_2 a0_3 a0_4 a0_5 a0_6 a0_7 a0_8 l0_9)))) else (some false)) else (none)) else (none)) else (if ((rd_T81 t901 x8_3).f2) > ((rd_T81 t901 x8_3).f3) then (if a0_6 = 0 then (some false) else (if a0_7 = 0 then (if ((rd_T81 t901 x8_3).f4) = ((rd_T81 t901 x8_3).f3) then (if a0_7 > 0 then (if ((rd_T81 t901 x8_3).f4) ≤ ((rd_T81 t901 x8_3).f3) then (some false) else (tenorlaw8_SchedEnds.l1 k3 t892 t901 ji46 a0_0 a0_1 a0_2 a0_3 a0_4 a0_5 a0_6 a0_7 a0_8 l0_9)) else (tenorlaw8_SchedEnds.l1 k3 t892 t901 ji46 a0_0 a0_1 a0_2 a0_3 a0_4 a0_5 a0_6 a0_7 a0_8 l0_9)) else (some false)) else (if a0_7 > 0 then (if ((rd_T81 t901 x8_3).f4) ≤ ((rd_T81 t901 x8_3).f3) then (some false) else (tenorlaw8_SchedEnds.l1 k3 t892 t901 ji46 a0_0 a0_1 a0_2 a0_3 a0_4 a0_5 a0_6 a0_7 a0_8 l0_9)) else (tenorlaw8_SchedEnds.l1 k3 t892 t901 ji46 a0_0 a0_1 a0_2 a0_3 a0_4 a0_5 a0_6 a0_7 a0_8 l0_9)))) else (if a0_7 = 0 then (if ((rd_T81 t901 x8_3).f4) = ((rd_T81 t901 x8_3).f3) then (if a0_7 > 0 then (if ((rd_T81 t901 x8_3).f4) ≤ ((rd_T81 t901 x8_3).f3) then (some false) else (tenorlaw8_SchedEnds.l1 k3 t892 t901 ji46 a0_0 a0_1 a0_2 a0_3 a0_4 a0_5 a0_6 a0_7 a0_8 l0_9)) else (tenorlaw8_SchedEnds.l1 k3 t892 t901 ji46 a0_0 a0_1 a0_2 a0_3 a0_4 a0_5 a0_6 a0_7 a0_8 l0_9)) else (some false)) else (if a0_7 > 0 then (if ((rd_T81 t901 x8_3).f4) ≤ ((rd_T81 t901 x8_3).f3) then (some false) else (tenorlaw8_SchedEnds.l1 k3 t892 t901 ji46 a0_0 a0_1 a0_2 a0_3 a0_4 a0_5 a0_6 a0_7 a0_8 l0_9)) else (tenorlaw8_SchedEnds.l1 k3 t892 t901 ji46 a0_0 a0_1 a0_2 a0_3 a0_4 a0_5 a0_6 a0_7 a0_8 l0_9))))) else (some false)) else (none)) else (none)) = some r := by first | (rw [hji46] at H; exact H) | (simp only [hji46] at H ⊢; exact H)
                 have hji46w : (IntKind.i64.wrap (x8_3 + 1)) = ji46 := (i64_w _).trans hji46
                 by_cases c47 : 0 ≤ (ji46)
                 ·
                  rw [if_pos c47] at H
                  have c47b0 : decide (0 ≤ (ji46)) = true := decide_eq_true c47
                  clear c47
                  by_cases c48 : (ji46) < (t892.length : Int)
                  ·
                   rw [if_pos c48] at H
                   have c48b0 : decide ((ji46) < (t892.length : Int)) = true := decide_eq_true c48
                   clear c48
                   by_cases c49 : ((rd_T81 t901 x8_3).f1) = (rd t892 (ji46))
                   ·
                    rw [if_pos c49] at H
                    have c49b0 : (((rd_T81 t901 x8_3).f1) == (rd t892 (ji46))) = true := beq_iff_eq.mpr c49
                    have c49b1 : (((rd_T81 t901 x8_3).f1) != (rd t892 (ji46))) = false := bne_eq_false_iff_eq.mpr c49
                    clear c49
                    by_cases c50 : x8_3 > 0
                    ·
                     rw [if_pos c50] at H
                     have c50b0 : decide (0 < x8_3) = true := decide_eq_true c50
                     clear c50
                     obtain ⟨ji51, hji51⟩ : ∃ j_ : Int, (wrap64 (x8_3 - 1)) = j_ := ⟨_, rfl⟩
                     replace H : (if 0 ≤ (ji51) then (if (ji51) < (t901.length : Int) then (if ((rd_T81 t901 x8_3).f2) = ((rd_T81 t901 (ji51)).f3) then (if ((rd_T81 t901 x8_3).f2) > ((rd_T81 t901 x8_3).f3) then (if a0_6 = 0 then (some false) else (if a0_7 = 0 then (if ((rd_T81 t901 x8_3).f4) = ((rd_T81 t901 x8_3).f3) then (if a0_7 > 0 then (if ((rd_T81 t901 x8_3).f4) ≤ ((rd_T81 t901 x8_3).f3) then (some false) else (tenorlaw8_SchedEnds.l1 k3 t892 t901 ji46 a0_0 a0_1 a0_2 a0_3 a0_4 a0_5 a0_6 a0_7 a0_8 l0_9)) else (tenorlaw8_SchedEnds.l1 k3 t892 t901 ji46 a0_0 a0_1 a0_2 a0_3 a0_4 a0_5 a0_6 a0_7 a0_8 l0_9)) else (some false)) else (if a0_7 > 0 then (if ((rd_T81 t901 x8_3).f4) ≤ ((rd_T81 t901 x8_3).f3) then (some false) else (tenorlaw8_SchedEnds.l1 k3 t892 t901 ji46 a0_0 a0_1 a0_2 a0_3 a0_4 a0_5 a0_6 a0_7 a0_8 l0_9)) else (tenorlaw8_SchedEnds.l1 k3 t892 t901 ji46 a0_0 a0_1 a0_2 a0_3 a0_4 a0_5 a0_6 a0_7 a0_8 l0_9)))) else (if a0_7 = 0 then (if ((rd_T81 t901 x8_3).f4) = ((rd_T81 t901 x8_3).f3) then (if a0_7 > 0 then (if ((rd_T81 t901 x8_3).f4) ≤ ((rd_T81 t901 x8_3).f3) then (some false) else (tenorlaw8_SchedEnds.l1 k3 t892 t901 ji46 a0_0 a0_1 a0_2 a0_3 a0_4 a0_5 a0_6 a0_7 a0_8 l0_9)) else (tenorlaw8_SchedEnds.l1 k3 t892 t901 ji46 a0_0 a0_1 a0_2 a0_3 a0_4 a0_5 a0_6 a0_7 a0_8 l0_9)) else (some false)) else (if a0_7 > 0 then (if ((rd_T81 t901 x8_3).f4) ≤ ((rd_T81 t901 x8_3).f3) then (some false) else (tenorlaw8_SchedEnds.l1 k3 t892 t901 ji46 a0_0 a0_1 a0_2 a0_3 a0_4 a0_5 a0_6 a0_7 a0_8 l0_9)) else (tenorlaw8_SchedEnds.l1 k3 t892 t901 ji46 a0_0 a0_1 a0_2 a0_3 a0_4 a0_5 a0_6 a0_7 a0_8 l0_9)))) else (some false)) else (none)) else (none)) = some r := by first | (rw [hji51] at H; exact H) | (simp only [hji51] at H ⊢; exact H)
                     have hji51w : (IntKind.i64.wrap (x8_3 - 1)) = ji51 := (i64_w _).trans hji51
                     by_cases c52 : 0 ≤ (ji51)
                     ·
                      rw [if_pos c52] at H
                      have c52b0 : decide (0 ≤ (ji51)) = true := decide_eq_true c52
                      clear c52
                      by_cases c53 : (ji51) < (t901.length : Int)
                      ·
                       rw [if_pos c53] at H
                       have c53b0 : decide ((ji51) < (t901.length : Int)) = true := decide_eq_true c53
                       clear c53
                       by_cases c54 : ((rd_T81 t901 x8_3).f2) = ((rd_T81 t901 (ji51)).f3)
                       ·
                        rw [if_pos c54] at H
                        have c54b0 : (((rd_T81 t901 x8_3).f2) == ((rd_T81 t901 (ji51)).f3)) = true := beq_iff_eq.mpr c54
                        have c54b1 : (((rd_T81 t901 x8_3).f2) != ((rd_T81 t901 (ji51)).f3)) = false := bne_eq_false_iff_eq.mpr c54
                        clear c54
                        by_cases c55 : ((rd_T81 t901 x8_3).f2) > ((rd_T81 t901 x8_3).f3)
                        ·
                         rw [if_pos c55] at H
                         have c55b0 : decide (((rd_T81 t901 x8_3).f3) < ((rd_T81 t901 x8_3).f2)) = true := decide_eq_true c55
                         clear c55
                         by_cases c56 : a0_6 = 0
                         ·
                          rw [if_pos c56] at H
                          have c56b0 : (a0_6 == 0) = true := beq_iff_eq.mpr c56
                          have c56b1 : (a0_6 != 0) = false := bne_eq_false_iff_eq.mpr c56
                          clear c56
                          exact absurd (H.trans (congrArg some HT)) (by decide)
                         ·
                          rw [if_neg c56] at H
                          have c56b0 : (a0_6 == 0) = false := beq_eq_false_iff_ne.mpr c56
                          have c56b1 : (a0_6 != 0) = true := bne_iff_ne.mpr c56
                          by_cases c58 : a0_7 = 0
                          ·
                           rw [if_pos c58] at H
                           have c58b0 : (a0_7 == 0) = true := beq_iff_eq.mpr c58
                           have c58b1 : (a0_7 != 0) = false := bne_eq_false_iff_eq.mpr c58
                           clear c58
                           by_cases c59 : ((rd_T81 t901 x8_3).f4) = ((rd_T81 t901 x8_3).f3)
                           ·
                            rw [if_pos c59] at H
                            have c59b0 : (((rd_T81 t901 x8_3).f4) == ((rd_T81 t901 x8_3).f3)) = true := beq_iff_eq.mpr c59
                            have c59b1 : (((rd_T81 t901 x8_3).f4) != ((rd_T81 t901 x8_3).f3)) = false := bne_eq_false_iff_eq.mpr c59
                            clear c59
                            by_cases c60 : a0_7 > 0
                            ·
                             exfalso; have z_ := beq_iff_eq.mp c58b0; omega
                            ·
                             rw [if_neg c60] at H
                             have c60b0 : decide (0 < a0_7) = false := decide_eq_false c60
                             clear c60;have H' := Aside0.mk H;clear H
                             have p906 : 0 ≤ (x8_3 : Int) := of_decide_eq_true (by first | (with_reducible assumption) | assumption)
                             have q906 : x8_3 < (t901.length : Int) := of_decide_eq_true (by first | (with_reducible assumption) | assumption)
                             obtain ⟨ad906, e906, hx906_0, hx906_1, hx906_2, hx906_3, hx906_4⟩ := at_T81 (Kd.R_reads' HO_6.out).2.2 x8_3 p906 q906
                             cases e906
                             replace p906 := eq_true p906;replace q906 := eq_true q906
                             have p907 : 0 ≤ (x8_3 : Int) := of_decide_eq_true (by first | (with_reducible assumption) | assumption)
                             have q907 : x8_3 < (t892.length : Int) := of_decide_eq_true (by first | (with_reducible assumption) | assumption)
                             obtain ⟨ad907, e907, hx907_0⟩ := Kd.at_int (Kd.R_reads' HO_3.out).2.2 x8_3 p907 q907
                             cases e907
                             replace p907 := eq_true p907;replace q907 := eq_true q907
                             have p908 : 0 ≤ (x8_3 : Int) := of_decide_eq_true (by first | (with_reducible assumption) | assumption)
                             have q908 : x8_3 < (t901.length : Int) := of_decide_eq_true (by first | (with_reducible assumption) | assumption)
                             obtain ⟨ad908, e908, hx908_0, hx908_1, hx908_2, hx908_3, hx908_4⟩ := at_T81 (Kd.R_reads' HO_6.out).2.2 x8_3 p908 q908
                             obtain rfl : ad906 = ad908 := (by injection e908)
                             replace p908 := eq_true p908;replace q908 := eq_true q908
                             have p909 : 0 ≤ ((ji46) : Int) := of_decide_eq_true (by first | (with_reducible assumption) | assumption)
                             have q909 : (ji46) < (t892.length : Int) := of_decide_eq_true (by first | (with_reducible assumption) | assumption)
                             obtain ⟨ad909, e909, hx909_0⟩ := Kd.at_int (Kd.R_reads' HO_3.out).2.2 (ji46) p909 q909
                             obtain rfl : ad907 = ad909 := (by injection e909)
                             replace p909 := eq_true p909;replace q909 := eq_true q909
                             have p910 : 0 ≤ (x8_3 : Int) := of_decide_eq_true (by first | (with_reducible assumption) | assumption)
                             have q910 : x8_3 < (t901.length : Int) := of_decide_eq_true (by first | (with_reducible assumption) | assumption)
                             obtain ⟨ad910, e910, hx910_0, hx910_1, hx910_2, hx910_3, hx910_4⟩ := at_T81 (Kd.R_reads' HO_6.out).2.2 x8_3 p910 q910
                             obtain rfl : ad906 = ad910 := (by injection e910)
                             replace p910 := eq_true p910;replace q910 := eq_true q910
                             have p911 : 0 ≤ ((ji51) : Int) := of_decide_eq_true (by first | (with_reducible assumption) | assumption)
                             have q911 : (ji51) < (t901.length : Int) := of_decide_eq_true (by first | (with_reducible assumption) | assumption)
                             obtain ⟨ad911, e911, hx911_0, hx911_1, hx911_2, hx911_3, hx911_4⟩ := at_T81 (Kd.R_reads' HO_6.out).2.2 (ji51) p911 q911
                             obtain rfl : ad906 = ad911 := (by injection e911)
                             replace p911 := eq_true p911;replace q911 := eq_true q911
                             have p912 : 0 ≤ (x8_3 : Int) := of_decide_eq_true (by first | (with_reducible assumption) | assumption)
                             have q912 : x8_3 < (t901.length : Int) := of_decide_eq_true (by first | (with_reducible assumption) | assumption)
                             obtain ⟨ad912, e912, hx912_0, hx912_1, hx912_2, hx912_3, hx912_4⟩ := at_T81 (Kd.R_reads' HO_6.out).2.2 x8_3 p912 q912
                             obtain rfl : ad906 = ad912 := (by injection e912)
                             replace p912 := eq_true p912;replace q912 := eq_true q912
                             have p913 : 0 ≤ (x8_3 : Int) := of_decide_eq_true (by first | (with_reducible assumption) | assumption)
                             have q913 : x8_3 < (t901.length : Int) := of_decide_eq_true (by first | (with_reducible assumption) | assumption)
                             obtain ⟨ad913, e913, hx913_0, hx913_1, hx913_2, hx913_3, hx913_4⟩ := at_T81 (Kd.R_reads' HO_6.out).2.2 x8_3 p913 q913
                             obtain rfl : ad906 = ad913 := (by injection e913)
                             replace p913 := eq_true p913;replace q913 := eq_true q913
                             have hcz64_0 : wr.cell? ⟨gb889, 0, none⟩ = some (.int .i64 a0_0) := (blk_cell BK889.out 0).trans rfl
                             have hcz64_1 : wr.cell? ⟨gb889, 1, none⟩ = some (.int .i64 a0_1) := (blk_cell BK889.out 1).trans rfl
                             have hcz64_2 : wr.cell? ⟨gb889, 2, none⟩ = some (.int .i64 a0_2) := (blk_cell BK889.out 2).trans rfl
                             have hcz64_3 : wr.cell? ⟨gb889, 3, none⟩ = some (.int .i64 a0_3) := (blk_cell BK889.out 3).trans rfl
                             have hcz64_4 : wr.cell? ⟨gb889, 4, none⟩ = some (.int .i64 a0_4) := (blk_cell BK889.out 4).trans rfl
                             have hcz64_5 : wr.cell? ⟨gb889, 5, none⟩ = some (.int .i64 a0_5) := (blk_cell BK889.out 5).trans rfl
                             have hcz64_6 : wr.cell? ⟨gb889, 6, none⟩ = some (.int .i64 a0_6) := (blk_cell BK889.out 6).trans rfl
                             have hcz64_7 : wr.cell? ⟨gb889, 7, none⟩ = some (.int .i64 a0_7) := (blk_cell BK889.out 7).trans rfl
                             have hcz64_8 : wr.cell? ⟨gb889, 8, none⟩ = some (.int .i64 a0_8) := (blk_cell BK889.out 8).trans rfl
                             have hcz64_9 : wr.cell? ⟨gb889, 9, none⟩ = some (.slice A0_9 l0_9.length c0_9) := (blk_cell BK889.out 9).trans rfl
                             have hfz64_0 := blk_frozen BK889.out 0;have hfz64_1 := blk_frozen BK889.out 1;have hfz64_2 := blk_frozen BK889.out 2;have hfz64_3 := blk_frozen BK889.out 3;have hfz64_4 := blk_frozen BK889.out 4;have hfz64_5 := blk_frozen BK889.out 5;have hfz64_6 := blk_frozen BK889.out 6;have hfz64_7 := blk_frozen BK889.out 7;have hfz64_8 := blk_frozen BK889.out 8;have hfz64_9 := blk_frozen BK889.out 9
                             have p914 : 0 ≤ (x8_3 : Int) := of_decide_eq_true (by first | (with_reducible assumption) | assumption)
                             have q914 : x8_3 < (t901.length : Int) := of_decide_eq_true (by first | (with_reducible assumption) | assumption)
                             obtain ⟨ad914, e914, hx914_0, hx914_1, hx914_2, hx914_3, hx914_4⟩ := at_T81 (Kd.R_reads' HO_6.out).2.2 x8_3 p914 q914
                             obtain rfl : ad906 = ad914 := (by injection e914)
                             replace p914 := eq_true p914;replace q914 := eq_true q914
                             have p915 : 0 ≤ (x8_3 : Int) := of_decide_eq_true (by first | (with_reducible assumption) | assumption)
                             have q915 : x8_3 < (t901.length : Int) := of_decide_eq_true (by first | (with_reducible assumption) | assumption)
                             obtain ⟨ad915, e915, hx915_0, hx915_1, hx915_2, hx915_3, hx915_4⟩ := at_T81 (Kd.R_reads' HO_6.out).2.2 x8_3 p915 q915
                             obtain rfl : ad906 = ad915 := (by injection e915)
                             replace p915 := eq_true p915;replace q915 := eq_true q915
                             go_wp2
                             as_aux_lemma =>
                              refine wp_region_quiet_lit (by kernel_rfl) (lex_of (by kernel_rfl) lex19_21) ?_
                              iterate 12 (try go_big_quiet_step (fail))
                              as_aux_lemma =>
                               iterate 12 (try go_big_quiet_step (fail))
                               as_aux_lemma =>
                                iterate 12 (try go_big_quiet_step (fail))
                                as_aux_lemma =>
                                 iterate 12 (try go_big_quiet_step (fail))
                                 as_aux_lemma =>
                                  iterate 12 (try go_big_quiet_step (fail))
                                  as_aux_lemma =>
                                   iterate 12 (try go_big_quiet_step (fail))
                                   as_aux_lemma =>
                                    iterate 12 (try go_big_quiet_step (fail))
                                    as_aux_lemma =>
                                     repeat (go_big_quiet_step (fail))
                                     refine wpQuiet_nil ?_
                                     intro _ hw_
                                     obtain ⟨nq, hq_⟩ := hw_
                                     subst hq_
                                     try go_wp2
                                     repeat (go_quiet (fail); try go_wp2)
                                     go_roundg k3
                                     case measure => have := HJ5.out; have := HK2.out; have := HK3.out; (try clear hji46w); (try clear hji51w); (try clear hji46); (try clear hji51); omega
                                     case rel => exact ⟨(ji46), (by first | rfl | (simp; done) | (simp only [← hji46] <;> (first | rfl | simp)) | (simp [*]; done)), H', ⟨by have := HJ5.out; have := HK2.out; have := HK3.out; (try clear hji46w); (try clear hji51w); (try clear hji46); (try clear hji51); omega⟩, ⟨by (with_reducible repeat (first | apply Kd.R_alloc | apply Kd.R_drewN | apply Kd.R_drew)); exact HO_3.out⟩, ⟨by (with_reducible repeat (first | apply Kd.R_alloc | apply Kd.R_drewN | apply Kd.R_drew)); exact HO_6.out⟩, ⟨by (with_reducible repeat (first | refine blk_drewN ?_ _ | refine blk_drew ?_ | refine blk_alloc ?_ _)); exact BK889.out⟩, ⟨by repeat (first | (with_reducible first | exact HB.out | apply below_alloc | apply pw_below_drewN | apply below_drew1 | refine below_set ?_ GE889.out) | exact HB.out)⟩⟩
                           ·
                            rw [if_neg c59] at H
                            have c59b0 : (((rd_T81 t901 x8_3).f4) == ((rd_T81 t901 x8_3).f3)) = false := beq_eq_false_iff_ne.mpr c59
                            have c59b1 : (((rd_T81 t901 x8_3).f4) != ((rd_T81 t901 x8_3).f3)) = true := bne_iff_ne.mpr c59
                            exact absurd (H.trans (congrArg some HT)) (by decide)
                          ·
                           rw [if_neg c58] at H
                           have c58b0 : (a0_7 == 0) = false := beq_eq_false_iff_ne.mpr c58
                           have c58b1 : (a0_7 != 0) = true := bne_iff_ne.mpr c58
                           by_cases c66 : a0_7 > 0
                           ·
                            rw [if_pos c66] at H
                            have c66b0 : decide (0 < a0_7) = true := decide_eq_true c66
                            clear c66
                            by_cases c67 : ((rd_T81 t901 x8_3).f4) ≤ ((rd_T81 t901 x8_3).f3)
                            ·
                             rw [if_pos c67] at H
                             have c67b0 : decide (((rd_T81 t901 x8_3).f4) ≤ ((rd_T81 t901 x8_3).f3)) = true := decide_eq_true c67
                             clear c67
                             exact absurd (H.trans (congrArg some HT)) (by decide)
                            ·
                             rw [if_neg c67] at H
                             have c67b0 : decide (((rd_T81 t901 x8_3).f4) ≤ ((rd_T81 t901 x8_3).f3)) = false := decide_eq_false c67
                             clear c67;have H' := Aside0.mk H;clear H
                             have p906 : 0 ≤ (x8_3 : Int) := of_decide_eq_true (by first | (with_reducible assumption) | assumption)
                             have q906 : x8_3 < (t901.length : Int) := of_decide_eq_true (by first | (with_reducible assumption) | assumption)
                             obtain ⟨ad906, e906, hx906_0, hx906_1, hx906_2, hx906_3, hx906_4⟩ := at_T81 (Kd.R_reads' HO_6.out).2.2 x8_3 p906 q906
                             cases e906
                             replace p906 := eq_true p906;replace q906 := eq_true q906
                             have p907 : 0 ≤ (x8_3 : Int) := of_decide_eq_true (by first | (with_reducible assumption) | assumption)
                             have q907 : x8_3 < (t892.length : Int) := of_decide_eq_true (by first | (with_reducible assumption) | assumption)
                             obtain ⟨ad907, e907, hx907_0⟩ := Kd.at_int (Kd.R_reads' HO_3.out).2.2 x8_3 p907 q907
                             cases e907
                             replace p907 := eq_true p907;replace q907 := eq_true q907
                             have p908 : 0 ≤ (x8_3 : Int) := of_decide_eq_true (by first | (with_reducible assumption) | assumption)
                             have q908 : x8_3 < (t901.length : Int) := of_decide_eq_true (by first | (with_reducible assumption) | assumption)
                             obtain ⟨ad908, e908, hx908_0, hx908_1, hx908_2, hx908_3, hx908_4⟩ := at_T81 (Kd.R_reads' HO_6.out).2.2 x8_3 p908 q908
                             obtain rfl : ad906 = ad908 := (by injection e908)
                             replace p908 := eq_true p908;replace q908 := eq_true q908
                             have p909 : 0 ≤ ((ji46) : Int) := of_decide_eq_true (by first | (with_reducible assumption) | assumption)
                             have q909 : (ji46) < (t892.length : Int) := of_decide_eq_true (by first | (with_reducible assumption) | assumption)
                             obtain ⟨ad909, e909, hx909_0⟩ := Kd.at_int (Kd.R_reads' HO_3.out).2.2 (ji46) p909 q909
                             obtain rfl : ad907 = ad909 := (by injection e909)
                             replace p909 := eq_true p909;replace q909 := eq_true q909
                             have p910 : 0 ≤ (x8_3 : Int) := of_decide_eq_true (by first | (with_reducible assumption) | assumption)
                             have q910 : x8_3 < (t901.length : Int) := of_decide_eq_true (by first | (with_reducible assumption) | assumption)
                             obtain ⟨ad910, e910, hx910_0, hx910_1, hx910_2, hx910_3, hx910_4⟩ := at_T81 (Kd.R_reads' HO_6.out).2.2 x8_3 p910 q910
                             obtain rfl : ad906 = ad910 := (by injection e910)
                             replace p910 := eq_true p910;replace q910 := eq_true q910
                             have p911 : 0 ≤ ((ji51) : Int) := of_decide_eq_true (by first | (with_reducible assumption) | assumption)
                             have q911 : (ji51) < (t901.length : Int) := of_decide_eq_true (by first | (with_reducible assumption) | assumption)
                             obtain ⟨ad911, e911, hx911_0, hx911_1, hx911_2, hx911_3, hx911_4⟩ := at_T81 (Kd.R_reads' HO_6.out).2.2 (ji51) p911 q911
                             obtain rfl : ad906 = ad911 := (by injection e911)
                             replace p911 := eq_true p911;replace q911 := eq_true q911
                             have p912 : 0 ≤ (x8_3 : Int) := of_decide_eq_true (by first | (with_reducible assumption) | assumption)
                             have q912 : x8_3 < (t901.length : Int) := of_decide_eq_true (by first | (with_reducible assumption) | assumption)
                             obtain ⟨ad912, e912, hx912_0, hx912_1, hx912_2, hx912_3, hx912_4⟩ := at_T81 (Kd.R_reads' HO_6.out).2.2 x8_3 p912 q912
                             obtain rfl : ad906 = ad912 := (by injection e912)
                             replace p912 := eq_true p912;replace q912 := eq_true q912
                             have p913 : 0 ≤ (x8_3 : Int) := of_decide_eq_true (by first | (with_reducible assumption) | assumption)
                             have q913 : x8_3 < (t901.length : Int) := of_decide_eq_true (by first | (with_reducible assumption) | assumption)
                             obtain ⟨ad913, e913, hx913_0, hx913_1, hx913_2, hx913_3, hx913_4⟩ := at_T81 (Kd.R_reads' HO_6.out).2.2 x8_3 p913 q913
                             obtain rfl : ad906 = ad913 := (by injection e913)
                             replace p913 := eq_true p913;replace q913 := eq_true q913
                             have hcz69_0 : wr.cell? ⟨gb889, 0, none⟩ = some (.int .i64 a0_0) := (blk_cell BK889.out 0).trans rfl
                             have hcz69_1 : wr.cell? ⟨gb889, 1, none⟩ = some (.int .i64 a0_1) := (blk_cell BK889.out 1).trans rfl
                             have hcz69_2 : wr.cell? ⟨gb889, 2, none⟩ = some (.int .i64 a0_2) := (blk_cell BK889.out 2).trans rfl
                             have hcz69_3 : wr.cell? ⟨gb889, 3, none⟩ = some (.int .i64 a0_3) := (blk_cell BK889.out 3).trans rfl
                             have hcz69_4 : wr.cell? ⟨gb889, 4, none⟩ = some (.int .i64 a0_4) := (blk_cell BK889.out 4).trans rfl
                             have hcz69_5 : wr.cell? ⟨gb889, 5, none⟩ = some (.int .i64 a0_5) := (blk_cell BK889.out 5).trans rfl
                             have hcz69_6 : wr.cell? ⟨gb889, 6, none⟩ = some (.int .i64 a0_6) := (blk_cell BK889.out 6).trans rfl
                             have hcz69_7 : wr.cell? ⟨gb889, 7, none⟩ = some (.int .i64 a0_7) := (blk_cell BK889.out 7).trans rfl
                             have hcz69_8 : wr.cell? ⟨gb889, 8, none⟩ = some (.int .i64 a0_8) := (blk_cell BK889.out 8).trans rfl
                             have hcz69_9 : wr.cell? ⟨gb889, 9, none⟩ = some (.slice A0_9 l0_9.length c0_9) := (blk_cell BK889.out 9).trans rfl
                             have hfz69_0 := blk_frozen BK889.out 0;have hfz69_1 := blk_frozen BK889.out 1;have hfz69_2 := blk_frozen BK889.out 2;have hfz69_3 := blk_frozen BK889.out 3;have hfz69_4 := blk_frozen BK889.out 4;have hfz69_5 := blk_frozen BK889.out 5;have hfz69_6 := blk_frozen BK889.out 6;have hfz69_7 := blk_frozen BK889.out 7;have hfz69_8 := blk_frozen BK889.out 8;have hfz69_9 := blk_frozen BK889.out 9
                             have p918 : 0 ≤ (x8_3 : Int) := of_decide_eq_true (by first | (with_reducible assumption) | assumption)
                             have q918 : x8_3 < (t901.length : Int) := of_decide_eq_true (by first | (with_reducible assumption) | assumption)
                             obtain ⟨ad918, e918, hx918_0, hx918_1, hx918_2, hx918_3, hx918_4⟩ := at_T81 (Kd.R_reads' HO_6.out).2.2 x8_3 p918 q918
                             obtain rfl : ad906 = ad918 := (by injection e918)
                             replace p918 := eq_true p918;replace q918 := eq_true q918
                             have p919 : 0 ≤ (x8_3 : Int) := of_decide_eq_true (by first | (with_reducible assumption) | assumption)
                             have q919 : x8_3 < (t901.length : Int) := of_decide_eq_true (by first | (with_reducible assumption) | assumption)
                             obtain ⟨ad919, e919, hx919_0, hx919_1, hx919_2, hx919_3, hx919_4⟩ := at_T81 (Kd.R_reads' HO_6.out).2.2 x8_3 p919 q919
                             obtain rfl : ad906 = ad919 := (by injection e919)
                             replace p919 := eq_true p919;replace q919 := eq_true q919
                             go_wp2
                             as_aux_lemma =>
                              refine wp_region_quiet_lit (by kernel_rfl) (lex_of (by kernel_rfl) lex19_21) ?_
                              iterate 12 (try go_big_quiet_step (fail))
                              as_aux_lemma =>
                               iterate 12 (try go_big_quiet_step (fail))
                               as_aux_lemma =>
                                iterate 12 (try go_big_quiet_step (fail))
                                as_aux_lemma =>
                                 iterate 12 (try go_big_quiet_step (fail))
                                 as_aux_lemma =>
                                  iterate 12 (try go_big_quiet_step (fail))
                                  as_aux_lemma =>
                                   iterate 12 (try go_big_quiet_step (fail))
                                   as_aux_lemma =>
                                    iterate 12 (try go_big_quiet_step (fail))
                                    as_aux_lemma =>
                                     repeat (go_big_quiet_step (fail))
                                     refine wpQuiet_nil ?_
                                     intro _ hw_
                                     obtain ⟨nq, hq_⟩ := hw_
                                     subst hq_
                                     try go_wp2
                                     repeat (go_quiet (fail); try go_wp2)
                                     go_roundg k3
                                     case measure => have := HJ5.out; have := HK2.out; have := HK3.out; (try clear hji46w); (try clear hji51w); (try clear hji46); (try clear hji51); omega
                                     case rel => exact ⟨(ji46), (by first | rfl | (simp; done) | (simp only [← hji46] <;> (first | rfl | simp)) | (simp [*]; done)), H', ⟨by have := HJ5.out; have := HK2.out; have := HK3.out; (try clear hji46w); (try clear hji51w); (try clear hji46); (try clear hji51); omega⟩, ⟨by (with_reducible repeat (first | apply Kd.R_alloc | apply Kd.R_drewN | apply Kd.R_drew)); exact HO_3.out⟩, ⟨by (with_reducible repeat (first | apply Kd.R_alloc | apply Kd.R_drewN | apply Kd.R_drew)); exact HO_6.out⟩, ⟨by (with_reducible repeat (first | refine blk_drewN ?_ _ | refine blk_drew ?_ | refine blk_alloc ?_ _)); exact BK889.out⟩, ⟨by repeat (first | (with_reducible first | exact HB.out | apply below_alloc | apply pw_below_drewN | apply below_drew1 | refine below_set ?_ GE889.out) | exact HB.out)⟩⟩
                           ·
                            exfalso; have z_ := HL0.out; have y_ := beq_eq_false_iff_ne.mp c58b0; omega
                        ·
                         rw [if_neg c55] at H
                         have c55b0 : decide (((rd_T81 t901 x8_3).f3) < ((rd_T81 t901 x8_3).f2)) = false := decide_eq_false c55
                         clear c55
                         by_cases c71 : a0_7 = 0
                         ·
                          rw [if_pos c71] at H
                          have c71b0 : (a0_7 == 0) = true := beq_iff_eq.mpr c71
                          have c71b1 : (a0_7 != 0) = false := bne_eq_false_iff_eq.mpr c71
                          clear c71
                          by_cases c72 : ((rd_T81 t901 x8_3).f4) = ((rd_T81 t901 x8_3).f3)
                          ·
                           rw [if_pos c72] at H
                           have c72b0 : (((rd_T81 t901 x8_3).f4) == ((rd_T81 t901 x8_3).f3)) = true := beq_iff_eq.mpr c72
                           have c72b1 : (((rd_T81 t901 x8_3).f4) != ((rd_T81 t901 x8_3).f3)) = false := bne_eq_false_iff_eq.mpr c72
                           clear c72
                           by_cases c73 : a0_7 > 0
                           ·
                            exfalso; have z_ := beq_iff_eq.mp c71b0; omega
                           ·
                            rw [if_neg c73] at H
                            have c73b0 : decide (0 < a0_7) = false := decide_eq_false c73
                            clear c73;have H' := Aside0.mk H;clear H
                            have p906 : 0 ≤ (x8_3 : Int) := of_decide_eq_true (by first | (with_reducible assumption) | assumption)
                            have q906 : x8_3 < (t901.length : Int) := of_decide_eq_true (by first | (with_reducible assumption) | assumption)
                            obtain ⟨ad906, e906, hx906_0, hx906_1, hx906_2, hx906_3, hx906_4⟩ := at_T81 (Kd.R_reads' HO_6.out).2.2 x8_3 p906 q906
                            cases e906
                            replace p906 := eq_true p906;replace q906 := eq_true q906
                            have p907 : 0 ≤ (x8_3 : Int) := of_decide_eq_true (by first | (with_reducible assumption) | assumption)
                            have q907 : x8_3 < (t892.length : Int) := of_decide_eq_true (by first | (with_reducible assumption) | assumption)
                            obtain ⟨ad907, e907, hx907_0⟩ := Kd.at_int (Kd.R_reads' HO_3.out).2.2 x8_3 p907 q907
                            cases e907
                            replace p907 := eq_true p907;replace q907 := eq_true q907
                            have p908 : 0 ≤ (x8_3 : Int) := of_decide_eq_true (by first | (with_reducible assumption) | assumption)
                            have q908 : x8_3 < (t901.length : Int) := of_decide_eq_true (by first | (with_reducible assumption) | assumption)
                            obtain ⟨ad908, e908, hx908_0, hx908_1, hx908_2, hx908_3, hx908_4⟩ := at_T81 (Kd.R_reads' HO_6.out).2.2 x8_3 p908 q908
                            obtain rfl : ad906 = ad908 := (by injection e908)
                            replace p908 := eq_true p908;replace q908 := eq_true q908
                            have p909 : 0 ≤ ((ji46) : Int) := of_decide_eq_true (by first | (with_reducible assumption) | assumption)
                            have q909 : (ji46) < (t892.length : Int) := of_decide_eq_true (by first | (with_reducible assumption) | assumption)
                            obtain ⟨ad909, e909, hx909_0⟩ := Kd.at_int (Kd.R_reads' HO_3.out).2.2 (ji46) p909 q909
                            obtain rfl : ad907 = ad909 := (by injection e909)
                            replace p909 := eq_true p909;replace q909 := eq_true q909
                            have p910 : 0 ≤ (x8_3 : Int) := of_decide_eq_true (by first | (with_reducible assumption) | assumption)
                            have q910 : x8_3 < (t901.length : Int) := of_decide_eq_true (by first | (with_reducible assumption) | assumption)
                            obtain ⟨ad910, e910, hx910_0, hx910_1, hx910_2, hx910_3, hx910_4⟩ := at_T81 (Kd.R_reads' HO_6.out).2.2 x8_3 p910 q910
                            obtain rfl : ad906 = ad910 := (by injection e910)
                            replace p910 := eq_true p910;replace q910 := eq_true q910
                            have p911 : 0 ≤ ((ji51) : Int) := of_decide_eq_true (by first | (with_reducible assumption) | assumption)
                            have q911 : (ji51) < (t901.length : Int) := of_decide_eq_true (by first | (with_reducible assumption) | assumption)
                            obtain ⟨ad911, e911, hx911_0, hx911_1, hx911_2, hx911_3, hx911_4⟩ := at_T81 (Kd.R_reads' HO_6.out).2.2 (ji51) p911 q911
                            obtain rfl : ad906 = ad911 := (by injection e911)
                            replace p911 := eq_true p911;replace q911 := eq_true q911
                            have p912 : 0 ≤ (x8_3 : Int) := of_decide_eq_true (by first | (with_reducible assumption) | assumption)
                            have q912 : x8_3 < (t901.length : Int) := of_decide_eq_true (by first | (with_reducible assumption) | assumption)
                            obtain ⟨ad912, e912, hx912_0, hx912_1, hx912_2, hx912_3, hx912_4⟩ := at_T81 (Kd.R_reads' HO_6.out).2.2 x8_3 p912 q912
                            obtain rfl : ad906 = ad912 := (by injection e912)
                            replace p912 := eq_true p912;replace q912 := eq_true q912
                            have p913 : 0 ≤ (x8_3 : Int) := of_decide_eq_true (by first | (with_reducible assumption) | assumption)
                            have q913 : x8_3 < (t901.length : Int) := of_decide_eq_true (by first | (with_reducible assumption) | assumption)
                            obtain ⟨ad913, e913, hx913_0, hx913_1, hx913_2, hx913_3, hx913_4⟩ := at_T81 (Kd.R_reads' HO_6.out).2.2 x8_3 p913 q913
                            obtain rfl : ad906 = ad913 := (by injection e913)
                            replace p913 := eq_true p913;replace q913 := eq_true q913
                            have hcz77_0 : wr.cell? ⟨gb889, 0, none⟩ = some (.int .i64 a0_0) := (blk_cell BK889.out 0).trans rfl
                            have hcz77_1 : wr.cell? ⟨gb889, 1, none⟩ = some (.int .i64 a0_1) := (blk_cell BK889.out 1).trans rfl
                            have hcz77_2 : wr.cell? ⟨gb889, 2, none⟩ = some (.int .i64 a0_2) := (blk_cell BK889.out 2).trans rfl
                            have hcz77_3 : wr.cell? ⟨gb889, 3, none⟩ = some (.int .i64 a0_3) := (blk_cell BK889.out 3).trans rfl
                            have hcz77_4 : wr.cell? ⟨gb889, 4, none⟩ = some (.int .i64 a0_4) := (blk_cell BK889.out 4).trans rfl
                            have hcz77_5 : wr.cell? ⟨gb889, 5, none⟩ = some (.int .i64 a0_5) := (blk_cell BK889.out 5).trans rfl
                            have hcz77_6 : wr.cell? ⟨gb889, 6, none⟩ = some (.int .i64 a0_6) := (blk_cell BK889.out 6).trans rfl
                            have hcz77_7 : wr.cell? ⟨gb889, 7, none⟩ = some (.int .i64 a0_7) := (blk_cell BK889.out 7).trans rfl
                            have hcz77_8 : wr.cell? ⟨gb889, 8, none⟩ = some (.int .i64 a0_8) := (blk_cell BK889.out 8).trans rfl
                            have hcz77_9 : wr.cell? ⟨gb889, 9, none⟩ = some (.slice A0_9 l0_9.length c0_9) := (blk_cell BK889.out 9).trans rfl
                            have hfz77_0 := blk_frozen BK889.out 0;have hfz77_1 := blk_frozen BK889.out 1;have hfz77_2 := blk_frozen BK889.out 2;have hfz77_3 := blk_frozen BK889.out 3;have hfz77_4 := blk_frozen BK889.out 4;have hfz77_5 := blk_frozen BK889.out 5;have hfz77_6 := blk_frozen BK889.out 6;have hfz77_7 := blk_frozen BK889.out 7;have hfz77_8 := blk_frozen BK889.out 8;have hfz77_9 := blk_frozen BK889.out 9
                            have p920 : 0 ≤ (x8_3 : Int) := of_decide_eq_true (by first | (with_reducible assumption) | assumption)
                            have q920 : x8_3 < (t901.length : Int) := of_decide_eq_true (by first | (with_reducible assumption) | assumption)
                            obtain ⟨ad920, e920, hx920_0, hx920_1, hx920_2, hx920_3, hx920_4⟩ := at_T81 (Kd.R_reads' HO_6.out).2.2 x8_3 p920 q920
                            obtain rfl : ad906 = ad920 := (by injection e920)
                            replace p920 := eq_true p920;replace q920 := eq_true q920
                            have p921 : 0 ≤ (x8_3 : Int) := of_decide_eq_true (by first | (with_reducible assumption) | assumption)
                            have q921 : x8_3 < (t901.length : Int) := of_decide_eq_true (by first | (with_reducible assumption) | assumption)
                            obtain ⟨ad921, e921, hx921_0, hx921_1, hx921_2, hx921_3, hx921_4⟩ := at_T81 (Kd.R_reads' HO_6.out).2.2 x8_3 p921 q921
                            obtain rfl : ad906 = ad921 := (by injection e921)
                            replace p921 := eq_true p921;replace q921 := eq_true q921
                            go_wp2
                            as_aux_lemma =>
                             refine wp_region_quiet_lit (by kernel_rfl) (lex_of (by kernel_rfl) lex19_21) ?_
                             iterate 12 (try go_big_quiet_step (fail))
                             as_aux_lemma =>
                              iterate 12 (try go_big_quiet_step (fail))
                              as_aux_lemma =>
                               iterate 12 (try go_big_quiet_step (fail))
                               as_aux_lemma =>
                                iterate 12 (try go_big_quiet_step (fail))
                                as_aux_lemma =>
                                 iterate 12 (try go_big_quiet_step (fail))
                                 as_aux_lemma =>
                                  iterate 12 (try go_big_quiet_step (fail))
                                  as_aux_lemma =>
                                   iterate 12 (try go_big_quiet_step (fail))
                                   as_aux_lemma =>
                                    repeat (go_big_quiet_step (fail))
                                    refine wpQuiet_nil ?_
                                    intro _ hw_
                                    obtain ⟨nq, hq_⟩ := hw_
                                    subst hq_
                                    try go_wp2
                                    repeat (go_quiet (fail); try go_wp2)
                                    go_roundg k3
                                    case measure => have := HJ5.out; have := HK2.out; have := HK3.out; (try clear hji46w); (try clear hji51w); (try clear hji46); (try clear hji51); omega
                                    case rel => exact ⟨(ji46), (by first | rfl | (simp; done) | (simp only [← hji46] <;> (first | rfl | simp)) | (simp [*]; done)), H', ⟨by have := HJ5.out; have := HK2.out; have := HK3.out; (try clear hji46w); (try clear hji51w); (try clear hji46); (try clear hji51); omega⟩, ⟨by (with_reducible repeat (first | apply Kd.R_alloc | apply Kd.R_drewN | apply Kd.R_drew)); exact HO_3.out⟩, ⟨by (with_reducible repeat (first | apply Kd.R_alloc | apply Kd.R_drewN | apply Kd.R_drew)); exact HO_6.out⟩, ⟨by (with_reducible repeat (first | refine blk_drewN ?_ _ | refine blk_drew ?_ | refine blk_alloc ?_ _)); exact BK889.out⟩, ⟨by repeat (first | (with_reducible first | exact HB.out | apply below_alloc | apply pw_below_drewN | apply below_drew1 | refine below_set ?_ GE889.out) | exact HB.out)⟩⟩
                          ·
                           rw [if_neg c72] at H
                           have c72b0 : (((rd_T81 t901 x8_3).f4) == ((rd_T81 t901 x8_3).f3)) = false := beq_eq_false_iff_ne.mpr c72
                           have c72b1 : (((rd_T81 t901 x8_3).f4) != ((rd_T81 t901 x8_3).f3)) = true := bne_iff_ne.mpr c72
                           exact absurd (H.trans (congrArg some HT)) (by decide)
                         ·
                          rw [if_neg c71] at H
                          have c71b0 : (a0_7 == 0) = false := beq_eq_false_iff_ne.mpr c71
                          have c71b1 : (a0_7 != 0) = true := bne_iff_ne.mpr c71
                          by_cases c79 : a0_7 > 0
                          ·
                           rw [if_pos c79] at H
                           have c79b0 : decide (0 < a0_7) = true := decide_eq_true c79
                           clear c79
                           by_cases c80 : ((rd_T81 t901 x8_3).f4) ≤ ((rd_T81 t901 x8_3).f3)
                           ·
                            rw [if_pos c80] at H
                            have c80b0 : decide (((rd_T81 t901 x8_3).f4) ≤ ((rd_T81 t901 x8_3).f3)) = true := decide_eq_true c80
                            clear c80
                            exact absurd (H.trans (congrArg some HT)) (by decide)
                           ·
                            rw [if_neg c80] at H
                            have c80b0 : decide (((rd_T81 t901 x8_3).f4) ≤ ((rd_T81 t901 x8_3).f3)) = false := decide_eq_false c80
                            clear c80;have H' := Aside0.mk H;clear H
                            have p906 : 0 ≤ (x8_3 : Int) := of_decide_eq_true (by first | (with_reducible assumption) | assumption)
                            have q906 : x8_3 < (t901.length : Int) := of_decide_eq_true (by first | (with_reducible assumption) | assumption)
                            obtain ⟨ad906, e906, hx906_0, hx906_1, hx906_2, hx906_3, hx906_4⟩ := at_T81 (Kd.R_reads' HO_6.out).2.2 x8_3 p906 q906
                            cases e906
                            replace p906 := eq_true p906;replace q906 := eq_true q906
                            have p907 : 0 ≤ (x8_3 : Int) := of_decide_eq_true (by first | (with_reducible assumption) | assumption)
                            have q907 : x8_3 < (t892.length : Int) := of_decide_eq_true (by first | (with_reducible assumption) | assumption)
                            obtain ⟨ad907, e907, hx907_0⟩ := Kd.at_int (Kd.R_reads' HO_3.out).2.2 x8_3 p907 q907
                            cases e907
                            replace p907 := eq_true p907;replace q907 := eq_true q907
                            have p908 : 0 ≤ (x8_3 : Int) := of_decide_eq_true (by first | (with_reducible assumption) | assumption)
                            have q908 : x8_3 < (t901.length : Int) := of_decide_eq_true (by first | (with_reducible assumption) | assumption)
                            obtain ⟨ad908, e908, hx908_0, hx908_1, hx908_2, hx908_3, hx908_4⟩ := at_T81 (Kd.R_reads' HO_6.out).2.2 x8_3 p908 q908
                            obtain rfl : ad906 = ad908 := (by injection e908)
                            replace p908 := eq_true p908;replace q908 := eq_true q908
                            have p909 : 0 ≤ ((ji46) : Int) := of_decide_eq_true (by first | (with_reducible assumption) | assumption)
                            have q909 : (ji46) < (t892.length : Int) := of_decide_eq_true (by first | (with_reducible assumption) | assumption)
                            obtain ⟨ad909, e909, hx909_0⟩ := Kd.at_int (Kd.R_reads' HO_3.out).2.2 (ji46) p909 q909
                            obtain rfl : ad907 = ad909 := (by injection e909)
                            replace p909 := eq_true p909;replace q909 := eq_true q909
                            have p910 : 0 ≤ (x8_3 : Int) := of_decide_eq_true (by first | (with_reducible assumption) | assumption)
                            have q910 : x8_3 < (t901.length : Int) := of_decide_eq_true (by first | (with_reducible assumption) | assumption)
                            obtain ⟨ad910, e910, hx910_0, hx910_1, hx910_2, hx910_3, hx910_4⟩ := at_T81 (Kd.R_reads' HO_6.out).2.2 x8_3 p910 q910
                            obtain rfl : ad906 = ad910 := (by injection e910)
                            replace p910 := eq_true p910;replace q910 := eq_true q910
                            have p911 : 0 ≤ ((ji51) : Int) := of_decide_eq_true (by first | (with_reducible assumption) | assumption)
                            have q911 : (ji51) < (t901.length : Int) := of_decide_eq_true (by first | (with_reducible assumption) | assumption)
                            obtain ⟨ad911, e911, hx911_0, hx911_1, hx911_2, hx911_3, hx911_4⟩ := at_T81 (Kd.R_reads' HO_6.out).2.2 (ji51) p911 q911
                            obtain rfl : ad906 = ad911 := (by injection e911)
                            replace p911 := eq_true p911;replace q911 := eq_true q911
                            have p912 : 0 ≤ (x8_3 : Int) := of_decide_eq_true (by first | (with_reducible assumption) | assumption)
                            have q912 : x8_3 < (t901.length : Int) := of_decide_eq_true (by first | (with_reducible assumption) | assumption)
                            obtain ⟨ad912, e912, hx912_0, hx912_1, hx912_2, hx912_3, hx912_4⟩ := at_T81 (Kd.R_reads' HO_6.out).2.2 x8_3 p912 q912
                            obtain rfl : ad906 = ad912 := (by injection e912)
                            replace p912 := eq_true p912;replace q912 := eq_true q912
                            have p913 : 0 ≤ (x8_3 : Int) := of_decide_eq_true (by first | (with_reducible assumption) | assumption)
                            have q913 : x8_3 < (t901.length : Int) := of_decide_eq_true (by first | (with_reducible assumption) | assumption)
                            obtain ⟨ad913, e913, hx913_0, hx913_1, hx913_2, hx913_3, hx913_4⟩ := at_T81 (Kd.R_reads' HO_6.out).2.2 x8_3 p913 q913
                            obtain rfl : ad906 = ad913 := (by injection e913)
                            replace p913 := eq_true p913;replace q913 := eq_true q913
                            have hcz82_0 : wr.cell? ⟨gb889, 0, none⟩ = some (.int .i64 a0_0) := (blk_cell BK889.out 0).trans rfl
                            have hcz82_1 : wr.cell? ⟨gb889, 1, none⟩ = some (.int .i64 a0_1) := (blk_cell BK889.out 1).trans rfl
                            have hcz82_2 : wr.cell? ⟨gb889, 2, none⟩ = some (.int .i64 a0_2) := (blk_cell BK889.out 2).trans rfl
                            have hcz82_3 : wr.cell? ⟨gb889, 3, none⟩ = some (.int .i64 a0_3) := (blk_cell BK889.out 3).trans rfl
                            have hcz82_4 : wr.cell? ⟨gb889, 4, none⟩ = some (.int .i64 a0_4) := (blk_cell BK889.out 4).trans rfl
                            have hcz82_5 : wr.cell? ⟨gb889, 5, none⟩ = some (.int .i64 a0_5) := (blk_cell BK889.out 5).trans rfl
                            have hcz82_6 : wr.cell? ⟨gb889, 6, none⟩ = some (.int .i64 a0_6) := (blk_cell BK889.out 6).trans rfl
                            have hcz82_7 : wr.cell? ⟨gb889, 7, none⟩ = some (.int .i64 a0_7) := (blk_cell BK889.out 7).trans rfl
                            have hcz82_8 : wr.cell? ⟨gb889, 8, none⟩ = some (.int .i64 a0_8) := (blk_cell BK889.out 8).trans rfl
                            have hcz82_9 : wr.cell? ⟨gb889, 9, none⟩ = some (.slice A0_9 l0_9.length c0_9) := (blk_cell BK889.out 9).trans rfl
                            have hfz82_0 := blk_frozen BK889.out 0;have hfz82_1 := blk_frozen BK889.out 1;have hfz82_2 := blk_frozen BK889.out 2;have hfz82_3 := blk_frozen BK889.out 3;have hfz82_4 := blk_frozen BK889.out 4;have hfz82_5 := blk_frozen BK889.out 5;have hfz82_6 := blk_frozen BK889.out 6;have hfz82_7 := blk_frozen BK889.out 7;have hfz82_8 := blk_frozen BK889.out 8;have hfz82_9 := blk_frozen BK889.out 9
                            have p924 : 0 ≤ (x8_3 : Int) := of_decide_eq_true (by first | (with_reducible assumption) | assumption)
                            have q924 : x8_3 < (t901.length : Int) := of_decide_eq_true (by first | (with_reducible assumption) | assumption)
                            obtain ⟨ad924, e924, hx924_0, hx924_1, hx924_2, hx924_3, hx924_4⟩ := at_T81 (Kd.R_reads' HO_6.out).2.2 x8_3 p924 q924
                            obtain rfl : ad906 = ad924 := (by injection e924)
                            replace p924 := eq_true p924;replace q924 := eq_true q924
                            have p925 : 0 ≤ (x8_3 : Int) := of_decide_eq_true (by first | (with_reducible assumption) | assumption)
                            have q925 : x8_3 < (t901.length : Int) := of_decide_eq_true (by first | (with_reducible assumption) | assumption)
                            obtain ⟨ad925, e925, hx925_0, hx925_1, hx925_2, hx925_3, hx925_4⟩ := at_T81 (Kd.R_reads' HO_6.out).2.2 x8_3 p925 q925
                            obtain rfl : ad906 = ad925 := (by injection e925)
                            replace p925 := eq_true p925;replace q925 := eq_true q925
                            go_wp2
                            as_aux_lemma =>
                             refine wp_region_quiet_lit (by kernel_rfl) (lex_of (by kernel_rfl) lex19_21) ?_
                             iterate 12 (try go_big_quiet_step (fail))
                             as_aux_lemma =>
                              iterate 12 (try go_big_quiet_step (fail))
                              as_aux_lemma =>
                               iterate 12 (try go_big_quiet_step (fail))
                               as_aux_lemma =>
                                iterate 12 (try go_big_quiet_step (fail))
                                as_aux_lemma =>
                                 iterate 12 (try go_big_quiet_step (fail))
                                 as_aux_lemma =>
                                  iterate 12 (try go_big_quiet_step (fail))
                                  as_aux_lemma =>
                                   iterate 12 (try go_big_quiet_step (fail))
                                   as_aux_lemma =>
                                    repeat (go_big_quiet_step (fail))
                                    refine wpQuiet_nil ?_
                                    intro _ hw_
                                    obtain ⟨nq, hq_⟩ := hw_
                                    subst hq_
                                    try go_wp2
                                    repeat (go_quiet (fail); try go_wp2)
                                    go_roundg k3
                                    case measure => have := HJ5.out; have := HK2.out; have := HK3.out; (try clear hji46w); (try clear hji51w); (try clear hji46); (try clear hji51); omega
                                    case rel => exact ⟨(ji46), (by first | rfl | (simp; done) | (simp only [← hji46] <;> (first | rfl | simp)) | (simp [*]; done)), H', ⟨by have := HJ5.out; have := HK2.out; have := HK3.out; (try clear hji46w); (try clear hji51w); (try clear hji46); (try clear hji51); omega⟩, ⟨by (with_reducible repeat (first | apply Kd.R_alloc | apply Kd.R_drewN | apply Kd.R_drew)); exact HO_3.out⟩, ⟨by (with_reducible repeat (first | apply Kd.R_alloc | apply Kd.R_drewN | apply Kd.R_drew)); exact HO_6.out⟩, ⟨by (with_reducible repeat (first | refine blk_drewN ?_ _ | refine blk_drew ?_ | refine blk_alloc ?_ _)); exact BK889.out⟩, ⟨by repeat (first | (with_reducible first | exact HB.out | apply below_alloc | apply pw_below_drewN | apply below_drew1 | refine below_set ?_ GE889.out) | exact HB.out)⟩⟩
                          ·
                           exfalso; have z_ := HL0.out; have y_ := beq_eq_false_iff_ne.mp c71b0; omega
                       ·
                        rw [if_neg c54] at H
                        have c54b0 : (((rd_T81 t901 x8_3).f2) == ((rd_T81 t901 (ji51)).f3)) = false := beq_eq_false_iff_ne.mpr c54
                        have c54b1 : (((rd_T81 t901 x8_3).f2) != ((rd_T81 t901 (ji51)).f3)) = true := bne_iff_ne.mpr c54
                        exact absurd (H.trans (congrArg some HT)) (by decide)
                      ·
                       rw [if_neg c53] at H
                       exact absurd H (by simp)
                     ·
                      rw [if_neg c52] at H
                      exact absurd H (by simp)
                    ·
                     rw [if_neg c50] at H
                     have c50b0 : decide (0 < x8_3) = false := decide_eq_false c50
                     clear c50
                     by_cases c84 : ((rd_T81 t901 x8_3).f2) > ((rd_T81 t901 x8_3).f3)
                     ·
                      rw [if_pos c84] at H
                      have c84b0 : decide (((rd_T81 t901 x8_3).f3) < ((rd_T81 t901 x8_3).f2)) = true := decide_eq_true c84
                      clear c84
                      by_cases c85 : a0_6 = 0
                      ·
                       rw [if_pos c85] at H
                       have c85b0 : (a0_6 == 0) = true := beq_iff_eq.mpr c85
                       have c85b1 : (a0_6 != 0) = false := bne_eq_false_iff_eq.mpr c85
                       clear c85
                       exact absurd (H.trans (congrArg some HT)) (by decide)
                      ·
                       rw [if_neg c85] at H
                       have c85b0 : (a0_6 == 0) = false := beq_eq_false_iff_ne.mpr c85
                       have c85b1 : (a0_6 != 0) = true := bne_iff_ne.mpr c85
                       by_cases c87 : a0_7 = 0
                       ·
                        rw [if_pos c87] at H
                        have c87b0 : (a0_7 == 0) = true := beq_iff_eq.mpr c87
                        have c87b1 : (a0_7 != 0) = false := bne_eq_false_iff_eq.mpr c87
                        clear c87
                        by_cases c88 : ((rd_T81 t901 x8_3).f4) = ((rd_T81 t901 x8_3).f3)
                        ·
                         rw [if_pos c88] at H
                         have c88b0 : (((rd_T81 t901 x8_3).f4) == ((rd_T81 t901 x8_3).f3)) = true := beq_iff_eq.mpr c88
                         have c88b1 : (((rd_T81 t901 x8_3).f4) != ((rd_T81 t901 x8_3).f3)) = false := bne_eq_false_iff_eq.mpr c88
                         clear c88
                         by_cases c89 : a0_7 > 0
                         ·
                          exfalso; have z_ := beq_iff_eq.mp c87b0; omega
                         ·
                          rw [if_neg c89] at H
                          have c89b0 : decide (0 < a0_7) = false := decide_eq_false c89
                          clear c89;have H' := Aside0.mk H;clear H
                          have p906 : 0 ≤ (x8_3 : Int) := of_decide_eq_true (by first | (with_reducible assumption) | assumption)
                          have q906 : x8_3 < (t901.length : Int) := of_decide_eq_true (by first | (with_reducible assumption) | assumption)
                          obtain ⟨ad906, e906, hx906_0, hx906_1, hx906_2, hx906_3, hx906_4⟩ := at_T81 (Kd.R_reads' HO_6.out).2.2 x8_3 p906 q906
                          cases e906
                          replace p906 := eq_true p906;replace q906 := eq_true q906
                          have p907 : 0 ≤ (x8_3 : Int) := of_decide_eq_true (by first | (with_reducible assumption) | assumption)
                          have q907 : x8_3 < (t892.length : Int) := of_decide_eq_true (by first | (with_reducible assumption) | assumption)
                          obtain ⟨ad907, e907, hx907_0⟩ := Kd.at_int (Kd.R_reads' HO_3.out).2.2 x8_3 p907 q907
                          cases e907
                          replace p907 := eq_true p907;replace q907 := eq_true q907
                          have p908 : 0 ≤ (x8_3 : Int) := of_decide_eq_true (by first | (with_reducible assumption) | assumption)
                          have q908 : x8_3 < (t901.length : Int) := of_decide_eq_true (by first | (with_reducible assumption) | assumption)
                          obtain ⟨ad908, e908, hx908_0, hx908_1, hx908_2, hx908_3, hx908_4⟩ := at_T81 (Kd.R_reads' HO_6.out).2.2 x8_3 p908 q908
                          obtain rfl : ad906 = ad908 := (by injection e908)
                          replace p908 := eq_true p908;replace q908 := eq_true q908
                          have p909 : 0 ≤ ((ji46) : Int) := of_decide_eq_true (by first | (with_reducible assumption) | assumption)
                          have q909 : (ji46) < (t892.length : Int) := of_decide_eq_true (by first | (with_reducible assumption) | assumption)
                          obtain ⟨ad909, e909, hx909_0⟩ := Kd.at_int (Kd.R_reads' HO_3.out).2.2 (ji46) p909 q909
                          obtain rfl : ad907 = ad909 := (by injection e909)
                          replace p909 := eq_true p909;replace q909 := eq_true q909
                          have p926 : 0 ≤ (x8_3 : Int) := of_decide_eq_true (by first | (with_reducible assumption) | assumption)
                          have q926 : x8_3 < (t901.length : Int) := of_decide_eq_true (by first | (with_reducible assumption) | assumption)
                          obtain ⟨ad926, e926, hx926_0, hx926_1, hx926_2, hx926_3, hx926_4⟩ := at_T81 (Kd.R_reads' HO_6.out).2.2 x8_3 p926 q926
                          obtain rfl : ad906 = ad926 := (by injection e926)
                          replace p926 := eq_true p926;replace q926 := eq_true q926
                          have p927 : 0 ≤ (x8_3 : Int) := of_decide_eq_true (by first | (with_reducible assumption) | assumption)
                          have q927 : x8_3 < (t901.length : Int) := of_decide_eq_true (by first | (with_reducible assumption) | assumption)
                          obtain ⟨ad927, e927, hx927_0, hx927_1, hx927_2, hx927_3, hx927_4⟩ := at_T81 (Kd.R_reads' HO_6.out).2.2 x8_3 p927 q927
                          obtain rfl : ad906 = ad927 := (by injection e927)
                          replace p927 := eq_true p927;replace q927 := eq_true q927
                          have hcz93_0 : wr.cell? ⟨gb889, 0, none⟩ = some (.int .i64 a0_0) := (blk_cell BK889.out 0).trans rfl
                          have hcz93_1 : wr.cell? ⟨gb889, 1, none⟩ = some (.int .i64 a0_1) := (blk_cell BK889.out 1).trans rfl
                          have hcz93_2 : wr.cell? ⟨gb889, 2, none⟩ = some (.int .i64 a0_2) := (blk_cell BK889.out 2).trans rfl
                          have hcz93_3 : wr.cell? ⟨gb889, 3, none⟩ = some (.int .i64 a0_3) := (blk_cell BK889.out 3).trans rfl
                          have hcz93_4 : wr.cell? ⟨gb889, 4, none⟩ = some (.int .i64 a0_4) := (blk_cell BK889.out 4).trans rfl
                          have hcz93_5 : wr.cell? ⟨gb889, 5, none⟩ = some (.int .i64 a0_5) := (blk_cell BK889.out 5).trans rfl
                          have hcz93_6 : wr.cell? ⟨gb889, 6, none⟩ = some (.int .i64 a0_6) := (blk_cell BK889.out 6).trans rfl
                          have hcz93_7 : wr.cell? ⟨gb889, 7, none⟩ = some (.int .i64 a0_7) := (blk_cell BK889.out 7).trans rfl
                          have hcz93_8 : wr.cell? ⟨gb889, 8, none⟩ = some (.int .i64 a0_8) := (blk_cell BK889.out 8).trans rfl
                          have hcz93_9 : wr.cell? ⟨gb889, 9, none⟩ = some (.slice A0_9 l0_9.length c0_9) := (blk_cell BK889.out 9).trans rfl
                          have hfz93_0 := blk_frozen BK889.out 0;have hfz93_1 := blk_frozen BK889.out 1;have hfz93_2 := blk_frozen BK889.out 2;have hfz93_3 := blk_frozen BK889.out 3;have hfz93_4 := blk_frozen BK889.out 4;have hfz93_5 := blk_frozen BK889.out 5;have hfz93_6 := blk_frozen BK889.out 6;have hfz93_7 := blk_frozen BK889.out 7;have hfz93_8 := blk_frozen BK889.out 8;have hfz93_9 := blk_frozen BK889.out 9
                          have p928 : 0 ≤ (x8_3 : Int) := of_decide_eq_true (by first | (with_reducible assumption) | assumption)
                          have q928 : x8_3 < (t901.length : Int) := of_decide_eq_true (by first | (with_reducible assumption) | assumption)
                          obtain ⟨ad928, e928, hx928_0, hx928_1, hx928_2, hx928_3, hx928_4⟩ := at_T81 (Kd.R_reads' HO_6.out).2.2 x8_3 p928 q928
                          obtain rfl : ad906 = ad928 := (by injection e928)
                          replace p928 := eq_true p928;replace q928 := eq_true q928
                          have p929 : 0 ≤ (x8_3 : Int) := of_decide_eq_true (by first | (with_reducible assumption) | assumption)
                          have q929 : x8_3 < (t901.length : Int) := of_decide_eq_true (by first | (with_reducible assumption) | assumption)
                          obtain ⟨ad929, e929, hx929_0, hx929_1, hx929_2, hx929_3, hx929_4⟩ := at_T81 (Kd.R_reads' HO_6.out).2.2 x8_3 p929 q929
                          obtain rfl : ad906 = ad929 := (by injection e929)
                          replace p929 := eq_true p929;replace q929 := eq_true q929
                          go_wp2
                          as_aux_lemma =>
                           refine wp_region_quiet_lit (by kernel_rfl) (lex_of (by kernel_rfl) lex19_21) ?_
                           iterate 12 (try go_big_quiet_step (fail))
                           as_aux_lemma =>
                            iterate 12 (try go_big_quiet_step (fail))
                            as_aux_lemma =>
                             iterate 12 (try go_big_quiet_step (fail))
                             as_aux_lemma =>
                              iterate 12 (try go_big_quiet_step (fail))
                              as_aux_lemma =>
                               iterate 12 (try go_big_quiet_step (fail))
                               as_aux_lemma =>
                                iterate 12 (try go_big_quiet_step (fail))
                                as_aux_lemma =>
                                 iterate 12 (try go_big_quiet_step (fail))
                                 as_aux_lemma =>
                                  repeat (go_big_quiet_step (fail))
                                  refine wpQuiet_nil ?_
                                  intro _ hw_
                                  obtain ⟨nq, hq_⟩ := hw_
                                  subst hq_
                                  try go_wp2
                                  repeat (go_quiet (fail); try go_wp2)
                                  go_roundg k3
                                  case measure => have := HJ5.out; have := HK2.out; have := HK3.out; (try clear hji46w); (try clear hji51w); (try clear hji46); (try clear hji51); omega
                                  case rel => exact ⟨(ji46), (by first | rfl | (simp; done) | (simp only [← hji46] <;> (first | rfl | simp)) | (simp [*]; done)), H', ⟨by have := HJ5.out; have := HK2.out; have := HK3.out; (try clear hji46w); (try clear hji51w); (try clear hji46); (try clear hji51); omega⟩, ⟨by (with_reducible repeat (first | apply Kd.R_alloc | apply Kd.R_drewN | apply Kd.R_drew)); exact HO_3.out⟩, ⟨by (with_reducible repeat (first | apply Kd.R_alloc | apply Kd.R_drewN | apply Kd.R_drew)); exact HO_6.out⟩, ⟨by (with_reducible repeat (first | refine blk_drewN ?_ _ | refine blk_drew ?_ | refine blk_alloc ?_ _)); exact BK889.out⟩, ⟨by repeat (first | (with_reducible first | exact HB.out | apply below_alloc | apply pw_below_drewN | apply below_drew1 | refine below_set ?_ GE889.out) | exact HB.out)⟩⟩
                        ·
                         rw [if_neg c88] at H
                         have c88b0 : (((rd_T81 t901 x8_3).f4) == ((rd_T81 t901 x8_3).f3)) = false := beq_eq_false_iff_ne.mpr c88
                         have c88b1 : (((rd_T81 t901 x8_3).f4) != ((rd_T81 t901 x8_3).f3)) = true := bne_iff_ne.mpr c88
                         exact absurd (H.trans (congrArg some HT)) (by decide)
                       ·
                        rw [if_neg c87] at H
                        have c87b0 : (a0_7 == 0) = false := beq_eq_false_iff_ne.mpr c87
                        have c87b1 : (a0_7 != 0) = true := bne_iff_ne.mpr c87
                        by_cases c95 : a0_7 > 0
                        ·
                         rw [if_pos c95] at H
                         have c95b0 : decide (0 < a0_7) = true := decide_eq_true c95
                         clear c95
                         by_cases c96 : ((rd_T81 t901 x8_3).f4) ≤ ((rd_T81 t901 x8_3).f3)
                         ·
                          rw [if_pos c96] at H
                          have c96b0 : decide (((rd_T81 t901 x8_3).f4) ≤ ((rd_T81 t901 x8_3).f3)) = true := decide_eq_true c96
                          clear c96
                          exact absurd (H.trans (congrArg some HT)) (by decide)
                         ·
                          rw [if_neg c96] at H
                          have c96b0 : decide (((rd_T81 t901 x8_3).f4) ≤ ((rd_T81 t901 x8_3).f3)) = false := decide_eq_false c96
                          clear c96;have H' := Aside0.mk H;clear H
                          have p906 : 0 ≤ (x8_3 : Int) := of_decide_eq_true (by first | (with_reducible assumption) | assumption)
                          have q906 : x8_3 < (t901.length : Int) := of_decide_eq_true (by first | (with_reducible assumption) | assumption)
                          obtain ⟨ad906, e906, hx906_0, hx906_1, hx906_2, hx906_3, hx906_4⟩ := at_T81 (Kd.R_reads' HO_6.out).2.2 x8_3 p906 q906
                          cases e906
                          replace p906 := eq_true p906;replace q906 := eq_true q906
                          have p907 : 0 ≤ (x8_3 : Int) := of_decide_eq_true (by first | (with_reducible assumption) | assumption)
                          have q907 : x8_3 < (t892.length : Int) := of_decide_eq_true (by first | (with_reducible assumption) | assumption)
                          obtain ⟨ad907, e907, hx907_0⟩ := Kd.at_int (Kd.R_reads' HO_3.out).2.2 x8_3 p907 q907
                          cases e907
                          replace p907 := eq_true p907;replace q907 := eq_true q907
                          have p908 : 0 ≤ (x8_3 : Int) := of_decide_eq_true (by first | (with_reducible assumption) | assumption)
                          have q908 : x8_3 < (t901.length : Int) := of_decide_eq_true (by first | (with_reducible assumption) | assumption)
                          obtain ⟨ad908, e908, hx908_0, hx908_1, hx908_2, hx908_3, hx908_4⟩ := at_T81 (Kd.R_reads' HO_6.out).2.2 x8_3 p908 q908
                          obtain rfl : ad906 = ad908 := (by injection e908)
                          replace p908 := eq_true p908;replace q908 := eq_true q908
                          have p909 : 0 ≤ ((ji46) : Int) := of_decide_eq_true (by first | (with_reducible assumption) | assumption)
                          have q909 : (ji46) < (t892.length : Int) := of_decide_eq_true (by first | (with_reducible assumption) | assumption)
                          obtain ⟨ad909, e909, hx909_0⟩ := Kd.at_int (Kd.R_reads' HO_3.out).2.2 (ji46) p909 q909
                          obtain rfl : ad907 = ad909 := (by injection e909)
                          replace p909 := eq_true p909;replace q909 := eq_true q909
                          have p926 : 0 ≤ (x8_3 : Int) := of_decide_eq_true (by first | (with_reducible assumption) | assumption)
                          have q926 : x8_3 < (t901.length : Int) := of_decide_eq_true (by first | (with_reducible assumption) | assumption)
                          obtain ⟨ad926, e926, hx926_0, hx926_1, hx926_2, hx926_3, hx926_4⟩ := at_T81 (Kd.R_reads' HO_6.out).2.2 x8_3 p926 q926
                          obtain rfl : ad906 = ad926 := (by injection e926)
                          replace p926 := eq_true p926;replace q926 := eq_true q926
                          have p927 : 0 ≤ (x8_3 : Int) := of_decide_eq_true (by first | (with_reducible assumption) | assumption)
                          have q927 : x8_3 < (t901.length : Int) := of_decide_eq_true (by first | (with_reducible assumption) | assumption)
                          obtain ⟨ad927, e927, hx927_0, hx927_1, hx927_2, hx927_3, hx927_4⟩ := at_T81 (Kd.R_reads' HO_6.out).2.2 x8_3 p927 q927
                          obtain rfl : ad906 = ad927 := (by injection e927)
                          replace p927 := eq_true p927;replace q927 := eq_true q927
                          have hcz98_0 : wr.cell? ⟨gb889, 0, none⟩ = some (.int .i64 a0_0) := (blk_cell BK889.out 0).trans rfl
                          have hcz98_1 : wr.cell? ⟨gb889, 1, none⟩ = some (.int .i64 a0_1) := (blk_cell BK889.out 1).trans rfl
                          have hcz98_2 : wr.cell? ⟨gb889, 2, none⟩ = some (.int .i64 a0_2) := (blk_cell BK889.out 2).trans rfl
                          have hcz98_3 : wr.cell? ⟨gb889, 3, none⟩ = some (.int .i64 a0_3) := (blk_cell BK889.out 3).trans rfl
                          have hcz98_4 : wr.cell? ⟨gb889, 4, none⟩ = some (.int .i64 a0_4) := (blk_cell BK889.out 4).trans rfl
                          have hcz98_5 : wr.cell? ⟨gb889, 5, none⟩ = some (.int .i64 a0_5) := (blk_cell BK889.out 5).trans rfl
                          have hcz98_6 : wr.cell? ⟨gb889, 6, none⟩ = some (.int .i64 a0_6) := (blk_cell BK889.out 6).trans rfl
                          have hcz98_7 : wr.cell? ⟨gb889, 7, none⟩ = some (.int .i64 a0_7) := (blk_cell BK889.out 7).trans rfl
                          have hcz98_8 : wr.cell? ⟨gb889, 8, none⟩ = some (.int .i64 a0_8) := (blk_cell BK889.out 8).trans rfl
                          have hcz98_9 : wr.cell? ⟨gb889, 9, none⟩ = some (.slice A0_9 l0_9.length c0_9) := (blk_cell BK889.out 9).trans rfl
                          have hfz98_0 := blk_frozen BK889.out 0;have hfz98_1 := blk_frozen BK889.out 1;have hfz98_2 := blk_frozen BK889.out 2;have hfz98_3 := blk_frozen BK889.out 3;have hfz98_4 := blk_frozen BK889.out 4;have hfz98_5 := blk_frozen BK889.out 5;have hfz98_6 := blk_frozen BK889.out 6;have hfz98_7 := blk_frozen BK889.out 7;have hfz98_8 := blk_frozen BK889.out 8;have hfz98_9 := blk_frozen BK889.out 9
                          have p932 : 0 ≤ (x8_3 : Int) := of_decide_eq_true (by first | (with_reducible assumption) | assumption)
                          have q932 : x8_3 < (t901.length : Int) := of_decide_eq_true (by first | (with_reducible assumption) | assumption)
                          obtain ⟨ad932, e932, hx932_0, hx932_1, hx932_2, hx932_3, hx932_4⟩ := at_T81 (Kd.R_reads' HO_6.out).2.2 x8_3 p932 q932
                          obtain rfl : ad906 = ad932 := (by injection e932)
                          replace p932 := eq_true p932;replace q932 := eq_true q932
                          have p933 : 0 ≤ (x8_3 : Int) := of_decide_eq_true (by first | (with_reducible assumption) | assumption)
                          have q933 : x8_3 < (t901.length : Int) := of_decide_eq_true (by first | (with_reducible assumption) | assumption)
                          obtain ⟨ad933, e933, hx933_0, hx933_1, hx933_2, hx933_3, hx933_4⟩ := at_T81 (Kd.R_reads' HO_6.out).2.2 x8_3 p933 q933
                          obtain rfl : ad906 = ad933 := (by injection e933)
                          replace p933 := eq_true p933;replace q933 := eq_true q933
                          go_wp2
                          as_aux_lemma =>
                           refine wp_region_quiet_lit (by kernel_rfl) (lex_of (by kernel_rfl) lex19_21) ?_
                           iterate 12 (try go_big_quiet_step (fail))
                           as_aux_lemma =>
                            iterate 12 (try go_big_quiet_step (fail))
                            as_aux_lemma =>
                             iterate 12 (try go_big_quiet_step (fail))
                             as_aux_lemma =>
                              iterate 12 (try go_big_quiet_step (fail))
                              as_aux_lemma =>
                               iterate 12 (try go_big_quiet_step (fail))
                               as_aux_lemma =>
                                iterate 12 (try go_big_quiet_step (fail))
                                as_aux_lemma =>
                                 iterate 12 (try go_big_quiet_step (fail))
                                 as_aux_lemma =>
                                  repeat (go_big_quiet_step (fail))
                                  refine wpQuiet_nil ?_
                                  intro _ hw_
                                  obtain ⟨nq, hq_⟩ := hw_
                                  subst hq_
                                  try go_wp2
                                  repeat (go_quiet (fail); try go_wp2)
                                  go_roundg k3
                                  case measure => have := HJ5.out; have := HK2.out; have := HK3.out; (try clear hji46w); (try clear hji51w); (try clear hji46); (try clear hji51); omega
                                  case rel => exact ⟨(ji46), (by first | rfl | (simp; done) | (simp only [← hji46] <;> (first | rfl | simp)) | (simp [*]; done)), H', ⟨by have := HJ5.out; have := HK2.out; have := HK3.out; (try clear hji46w); (try clear hji51w); (try clear hji46); (try clear hji51); omega⟩, ⟨by (with_reducible repeat (first | apply Kd.R_alloc | apply Kd.R_drewN | apply Kd.R_drew)); exact HO_3.out⟩, ⟨by (with_reducible repeat (first | apply Kd.R_alloc | apply Kd.R_drewN | apply Kd.R_drew)); exact HO_6.out⟩, ⟨by (with_reducible repeat (first | refine blk_drewN ?_ _ | refine blk_drew ?_ | refine blk_alloc ?_ _)); exact BK889.out⟩, ⟨by repeat (first | (with_reducible first | exact HB.out | apply below_alloc | apply pw_below_drewN | apply below_drew1 | refine below_set ?_ GE889.out) | exact HB.out)⟩⟩
                        ·
                         exfalso; have z_ := HL0.out; have y_ := beq_eq_false_iff_ne.mp c87b0; omega
                     ·
                      rw [if_neg c84] at H
                      have c84b0 : decide (((rd_T81 t901 x8_3).f3) < ((rd_T81 t901 x8_3).f2)) = false := decide_eq_false c84
                      clear c84
                      by_cases c100 : a0_7 = 0
                      ·
                       rw [if_pos c100] at H
                       have c100b0 : (a0_7 == 0) = true := beq_iff_eq.mpr c100
                       have c100b1 : (a0_7 != 0) = false := bne_eq_false_iff_eq.mpr c100
                       clear c100
                       by_cases c101 : ((rd_T81 t901 x8_3).f4) = ((rd_T81 t901 x8_3).f3)
                       ·
                        rw [if_pos c101] at H
                        have c101b0 : (((rd_T81 t901 x8_3).f4) == ((rd_T81 t901 x8_3).f3)) = true := beq_iff_eq.mpr c101
                        have c101b1 : (((rd_T81 t901 x8_3).f4) != ((rd_T81 t901 x8_3).f3)) = false := bne_eq_false_iff_eq.mpr c101
                        clear c101
                        by_cases c102 : a0_7 > 0
                        ·
                         exfalso; have z_ := beq_iff_eq.mp c100b0; omega
                        ·
                         rw [if_neg c102] at H
                         have c102b0 : decide (0 < a0_7) = false := decide_eq_false c102
                         clear c102;have H' := Aside0.mk H;clear H
                         have p906 : 0 ≤ (x8_3 : Int) := of_decide_eq_true (by first | (with_reducible assumption) | assumption)
                         have q906 : x8_3 < (t901.length : Int) := of_decide_eq_true (by first | (with_reducible assumption) | assumption)
                         obtain ⟨ad906, e906, hx906_0, hx906_1, hx906_2, hx906_3, hx906_4⟩ := at_T81 (Kd.R_reads' HO_6.out).2.2 x8_3 p906 q906
                         cases e906
                         replace p906 := eq_true p906;replace q906 := eq_true q906
                         have p907 : 0 ≤ (x8_3 : Int) := of_decide_eq_true (by first | (with_reducible assumption) | assumption)
                         have q907 : x8_3 < (t892.length : Int) := of_decide_eq_true (by first | (with_reducible assumption) | assumption)
                         obtain ⟨ad907, e907, hx907_0⟩ := Kd.at_int (Kd.R_reads' HO_3.out).2.2 x8_3 p907 q907
                         cases e907
                         replace p907 := eq_true p907;replace q907 := eq_true q907
                         have p908 : 0 ≤ (x8_3 : Int) := of_decide_eq_true (by first | (with_reducible assumption) | assumption)
                         have q908 : x8_3 < (t901.length : Int) := of_decide_eq_true (by first | (with_reducible assumption) | assumption)
                         obtain ⟨ad908, e908, hx908_0, hx908_1, hx908_2, hx908_3, hx908_4⟩ := at_T81 (Kd.R_reads' HO_6.out).2.2 x8_3 p908 q908
                         obtain rfl : ad906 = ad908 := (by injection e908)
                         replace p908 := eq_true p908;replace q908 := eq_true q908
                         have p909 : 0 ≤ ((ji46) : Int) := of_decide_eq_true (by first | (with_reducible assumption) | assumption)
                         have q909 : (ji46) < (t892.length : Int) := of_decide_eq_true (by first | (with_reducible assumption) | assumption)
                         obtain ⟨ad909, e909, hx909_0⟩ := Kd.at_int (Kd.R_reads' HO_3.out).2.2 (ji46) p909 q909
                         obtain rfl : ad907 = ad909 := (by injection e909)
                         replace p909 := eq_true p909;replace q909 := eq_true q909
                         have p926 : 0 ≤ (x8_3 : Int) := of_decide_eq_true (by first | (with_reducible assumption) | assumption)
                         have q926 : x8_3 < (t901.length : Int) := of_decide_eq_true (by first | (with_reducible assumption) | assumption)
                         obtain ⟨ad926, e926, hx926_0, hx926_1, hx926_2, hx926_3, hx926_4⟩ := at_T81 (Kd.R_reads' HO_6.out).2.2 x8_3 p926 q926
                         obtain rfl : ad906 = ad926 := (by injection e926)
                         replace p926 := eq_true p926;replace q926 := eq_true q926
                         have p927 : 0 ≤ (x8_3 : Int) := of_decide_eq_true (by first | (with_reducible assumption) | assumption)
                         have q927 : x8_3 < (t901.length : Int) := of_decide_eq_true (by first | (with_reducible assumption) | assumption)
                         obtain ⟨ad927, e927, hx927_0, hx927_1, hx927_2, hx927_3, hx927_4⟩ := at_T81 (Kd.R_reads' HO_6.out).2.2 x8_3 p927 q927
                         obtain rfl : ad906 = ad927 := (by injection e927)
                         replace p927 := eq_true p927;replace q927 := eq_true q927
                         have hcz106_0 : wr.cell? ⟨gb889, 0, none⟩ = some (.int .i64 a0_0) := (blk_cell BK889.out 0).trans rfl
                         have hcz106_1 : wr.cell? ⟨gb889, 1, none⟩ = some (.int .i64 a0_1) := (blk_cell BK889.out 1).trans rfl
                         have hcz106_2 : wr.cell? ⟨gb889, 2, none⟩ = some (.int .i64 a0_2) := (blk_cell BK889.out 2).trans rfl
                         have hcz106_3 : wr.cell? ⟨gb889, 3, none⟩ = some (.int .i64 a0_3) := (blk_cell BK889.out 3).trans rfl
                         have hcz106_4 : wr.cell? ⟨gb889, 4, none⟩ = some (.int .i64 a0_4) := (blk_cell BK889.out 4).trans rfl
                         have hcz106_5 : wr.cell? ⟨gb889, 5, none⟩ = some (.int .i64 a0_5) := (blk_cell BK889.out 5).trans rfl
                         have hcz106_6 : wr.cell? ⟨gb889, 6, none⟩ = some (.int .i64 a0_6) := (blk_cell BK889.out 6).trans rfl
                         have hcz106_7 : wr.cell? ⟨gb889, 7, none⟩ = some (.int .i64 a0_7) := (blk_cell BK889.out 7).trans rfl
                         have hcz106_8 : wr.cell? ⟨gb889, 8, none⟩ = some (.int .i64 a0_8) := (blk_cell BK889.out 8).trans rfl
                         have hcz106_9 : wr.cell? ⟨gb889, 9, none⟩ = some (.slice A0_9 l0_9.length c0_9) := (blk_cell BK889.out 9).trans rfl
                         have hfz106_0 := blk_frozen BK889.out 0;have hfz106_1 := blk_frozen BK889.out 1;have hfz106_2 := blk_frozen BK889.out 2;have hfz106_3 := blk_frozen BK889.out 3;have hfz106_4 := blk_frozen BK889.out 4;have hfz106_5 := blk_frozen BK889.out 5;have hfz106_6 := blk_frozen BK889.out 6;have hfz106_7 := blk_frozen BK889.out 7;have hfz106_8 := blk_frozen BK889.out 8;have hfz106_9 := blk_frozen BK889.out 9
                         have p934 : 0 ≤ (x8_3 : Int) := of_decide_eq_true (by first | (with_reducible assumption) | assumption)
                         have q934 : x8_3 < (t901.length : Int) := of_decide_eq_true (by first | (with_reducible assumption) | assumption)
                         obtain ⟨ad934, e934, hx934_0, hx934_1, hx934_2, hx934_3, hx934_4⟩ := at_T81 (Kd.R_reads' HO_6.out).2.2 x8_3 p934 q934
                         obtain rfl : ad906 = ad934 := (by injection e934)
                         replace p934 := eq_true p934;replace q934 := eq_true q934
                         have p935 : 0 ≤ (x8_3 : Int) := of_decide_eq_true (by first | (with_reducible assumption) | assumption)
                         have q935 : x8_3 < (t901.length : Int) := of_decide_eq_true (by first | (with_reducible assumption) | assumption)
                         obtain ⟨ad935, e935, hx935_0, hx935_1, hx935_2, hx935_3, hx935_4⟩ := at_T81 (Kd.R_reads' HO_6.out).2.2 x8_3 p935 q935
                         obtain rfl : ad906 = ad935 := (by injection e935)
                         replace p935 := eq_true p935;replace q935 := eq_true q935
                         go_wp2
                         as_aux_lemma =>
                          refine wp_region_quiet_lit (by kernel_rfl) (lex_of (by kernel_rfl) lex19_21) ?_
                          iterate 12 (try go_big_quiet_step (fail))
                          as_aux_lemma =>
                           iterate 12 (try go_big_quiet_step (fail))
                           as_aux_lemma =>
                            iterate 12 (try go_big_quiet_step (fail))
                            as_aux_lemma =>
                             iterate 12 (try go_big_quiet_step (fail))
                             as_aux_lemma =>
                              iterate 12 (try go_big_quiet_step (fail))
                              as_aux_lemma =>
                               iterate 12 (try go_big_quiet_step (fail))
                               as_aux_lemma =>
                                iterate 12 (try go_big_quiet_step (fail))
                                as_aux_lemma =>
                                 repeat (go_big_quiet_step (fail))
                                 refine wpQuiet_nil ?_
                                 intro _ hw_
                                 obtain ⟨nq, hq_⟩ := hw_
                                 subst hq_
                                 try go_wp2
                                 repeat (go_quiet (fail); try go_wp2)
                                 go_roundg k3
                                 case measure => have := HJ5.out; have := HK2.out; have := HK3.out; (try clear hji46w); (try clear hji51w); (try clear hji46); (try clear hji51); omega
                                 case rel => exact ⟨(ji46), (by first | rfl | (simp; done) | (simp only [← hji46] <;> (first | rfl | simp)) | (simp [*]; done)), H', ⟨by have := HJ5.out; have := HK2.out; have := HK3.out; (try clear hji46w); (try clear hji51w); (try clear hji46); (try clear hji51); omega⟩, ⟨by (with_reducible repeat (first | apply Kd.R_alloc | apply Kd.R_drewN | apply Kd.R_drew)); exact HO_3.out⟩, ⟨by (with_reducible repeat (first | apply Kd.R_alloc | apply Kd.R_drewN | apply Kd.R_drew)); exact HO_6.out⟩, ⟨by (with_reducible repeat (first | refine blk_drewN ?_ _ | refine blk_drew ?_ | refine blk_alloc ?_ _)); exact BK889.out⟩, ⟨by repeat (first | (with_reducible first | exact HB.out | apply below_alloc | apply pw_below_drewN | apply below_drew1 | refine below_set ?_ GE889.out) | exact HB.out)⟩⟩
                       ·
                        rw [if_neg c101] at H
                        have c101b0 : (((rd_T81 t901 x8_3).f4) == ((rd_T81 t901 x8_3).f3)) = false := beq_eq_false_iff_ne.mpr c101
                        have c101b1 : (((rd_T81 t901 x8_3).f4) != ((rd_T81 t901 x8_3).f3)) = true := bne_iff_ne.mpr c101
                        exact absurd (H.trans (congrArg some HT)) (by decide)
                      ·
                       rw [if_neg c100] at H
                       have c100b0 : (a0_7 == 0) = false := beq_eq_false_iff_ne.mpr c100
                       have c100b1 : (a0_7 != 0) = true := bne_iff_ne.mpr c100
                       by_cases c108 : a0_7 > 0
                       ·
                        rw [if_pos c108] at H
                        have c108b0 : decide (0 < a0_7) = true := decide_eq_true c108
                        clear c108
                        by_cases c109 : ((rd_T81 t901 x8_3).f4) ≤ ((rd_T81 t901 x8_3).f3)
                        ·
                         rw [if_pos c109] at H
                         have c109b0 : decide (((rd_T81 t901 x8_3).f4) ≤ ((rd_T81 t901 x8_3).f3)) = true := decide_eq_true c109
                         clear c109
                         exact absurd (H.trans (congrArg some HT)) (by decide)
                        ·
                         rw [if_neg c109] at H
                         have c109b0 : decide (((rd_T81 t901 x8_3).f4) ≤ ((rd_T81 t901 x8_3).f3)) = false := decide_eq_false c109
                         clear c109;have H' := Aside0.mk H;clear H
                         have p906 : 0 ≤ (x8_3 : Int) := of_decide_eq_true (by first | (with_reducible assumption) | assumption)
                         have q906 : x8_3 < (t901.length : Int) := of_decide_eq_true (by first | (with_reducible assumption) | assumption)
                         obtain ⟨ad906, e906, hx906_0, hx906_1, hx906_2, hx906_3, hx906_4⟩ := at_T81 (Kd.R_reads' HO_6.out).2.2 x8_3 p906 q906
                         cases e906
                         replace p906 := eq_true p906;replace q906 := eq_true q906
                         have p907 : 0 ≤ (x8_3 : Int) := of_decide_eq_true (by first | (with_reducible assumption) | assumption)
                         have q907 : x8_3 < (t892.length : Int) := of_decide_eq_true (by first | (with_reducible assumption) | assumption)
                         obtain ⟨ad907, e907, hx907_0⟩ := Kd.at_int (Kd.R_reads' HO_3.out).2.2 x8_3 p907 q907
                         cases e907
                         replace p907 := eq_true p907;replace q907 := eq_true q907
                         have p908 : 0 ≤ (x8_3 : Int) := of_decide_eq_true (by first | (with_reducible assumption) | assumption)
                         have q908 : x8_3 < (t901.length : Int) := of_decide_eq_true (by first | (with_reducible assumption) | assumption)
                         obtain ⟨ad908, e908, hx908_0, hx908_1, hx908_2, hx908_3, hx908_4⟩ := at_T81 (Kd.R_reads' HO_6.out).2.2 x8_3 p908 q908
                         obtain rfl : ad906 = ad908 := (by injection e908)
                         replace p908 := eq_true p908;replace q908 := eq_true q908
                         have p909 : 0 ≤ ((ji46) : Int) := of_decide_eq_true (by first | (with_reducible assumption) | assumption)
                         have q909 : (ji46) < (t892.length : Int) := of_decide_eq_true (by first | (with_reducible assumption) | assumption)
                         obtain ⟨ad909, e909, hx909_0⟩ := Kd.at_int (Kd.R_reads' HO_3.out).2.2 (ji46) p909 q909
                         obtain rfl : ad907 = ad909 := (by injection e909)
                         replace p909 := eq_true p909;replace q909 := eq_true q909
                         have p926 : 0 ≤ (x8_3 : Int) := of_decide_eq_true (by first | (with_reducible assumption) | assumption)
                         have q926 : x8_3 < (t901.length : Int) := of_decide_eq_true (by first | (with_reducible assumption) | assumption)
                         obtain ⟨ad926, e926, hx926_0, hx926_1, hx926_2, hx926_3, hx926_4⟩ := at_T81 (Kd.R_reads' HO_6.out).2.2 x8_3 p926 q926
                         obtain rfl : ad906 = ad926 := (by injection e926)
                         replace p926 := eq_true p926;replace q926 := eq_true q926
                         have p927 : 0 ≤ (x8_3 : Int) := of_decide_eq_true (by first | (with_reducible assumption) | assumption)
                         have q927 : x8_3 < (t901.length : Int) := of_decide_eq_true (by first | (with_reducible assumption) | assumption)
                         obtain ⟨ad927, e927, hx927_0, hx927_1, hx927_2, hx927_3, hx927_4⟩ := at_T81 (Kd.R_reads' HO_6.out).2.2 x8_3 p927 q927
                         obtain rfl : ad906 = ad927 := (by injection e927)
                         replace p927 := eq_true p927;replace q927 := eq_true q927
                         have hcz111_0 : wr.cell? ⟨gb889, 0, none⟩ = some (.int .i64 a0_0) := (blk_cell BK889.out 0).trans rfl
                         have hcz111_1 : wr.cell? ⟨gb889, 1, none⟩ = some (.int .i64 a0_1) := (blk_cell BK889.out 1).trans rfl
                         have hcz111_2 : wr.cell? ⟨gb889, 2, none⟩ = some (.int .i64 a0_2) := (blk_cell BK889.out 2).trans rfl
                         have hcz111_3 : wr.cell? ⟨gb889, 3, none⟩ = some (.int .i64 a0_3) := (blk_cell BK889.out 3).trans rfl
                         have hcz111_4 : wr.cell? ⟨gb889, 4, none⟩ = some (.int .i64 a0_4) := (blk_cell BK889.out 4).trans rfl
                         have hcz111_5 : wr.cell? ⟨gb889, 5, none⟩ = some (.int .i64 a0_5) := (blk_cell BK889.out 5).trans rfl
                         have hcz111_6 : wr.cell? ⟨gb889, 6, none⟩ = some (.int .i64 a0_6) := (blk_cell BK889.out 6).trans rfl
                         have hcz111_7 : wr.cell? ⟨gb889, 7, none⟩ = some (.int .i64 a0_7) := (blk_cell BK889.out 7).trans rfl
                         have hcz111_8 : wr.cell? ⟨gb889, 8, none⟩ = some (.int .i64 a0_8) := (blk_cell BK889.out 8).trans rfl
                         have hcz111_9 : wr.cell? ⟨gb889, 9, none⟩ = some (.slice A0_9 l0_9.length c0_9) := (blk_cell BK889.out 9).trans rfl
                         have hfz111_0 := blk_frozen BK889.out 0;have hfz111_1 := blk_frozen BK889.out 1;have hfz111_2 := blk_frozen BK889.out 2;have hfz111_3 := blk_frozen BK889.out 3;have hfz111_4 := blk_frozen BK889.out 4;have hfz111_5 := blk_frozen BK889.out 5;have hfz111_6 := blk_frozen BK889.out 6;have hfz111_7 := blk_frozen BK889.out 7;have hfz111_8 := blk_frozen BK889.out 8;have hfz111_9 := blk_frozen BK889.out 9
                         have p938 : 0 ≤ (x8_3 : Int) := of_decide_eq_true (by first | (with_reducible assumption) | assumption)
                         have q938 : x8_3 < (t901.length : Int) := of_decide_eq_true (by first | (with_reducible assumption) | assumption)
                         obtain ⟨ad938, e938, hx938_0, hx938_1, hx938_2, hx938_3, hx938_4⟩ := at_T81 (Kd.R_reads' HO_6.out).2.2 x8_3 p938 q938
                         obtain rfl : ad906 = ad938 := (by injection e938)
                         replace p938 := eq_true p938;replace q938 := eq_true q938
                         have p939 : 0 ≤ (x8_3 : Int) := of_decide_eq_true (by first | (with_reducible assumption) | assumption)
                         have q939 : x8_3 < (t901.length : Int) := of_decide_eq_true (by first | (with_reducible assumption) | assumption)
                         obtain ⟨ad939, e939, hx939_0, hx939_1, hx939_2, hx939_3, hx939_4⟩ := at_T81 (Kd.R_reads' HO_6.out).2.2 x8_3 p939 q939
                         obtain rfl : ad906 = ad939 := (by injection e939)
                         replace p939 := eq_true p939;replace q939 := eq_true q939
                         go_wp2
                         as_aux_lemma =>
                          refine wp_region_quiet_lit (by kernel_rfl) (lex_of (by kernel_rfl) lex19_21) ?_
                          iterate 12 (try go_big_quiet_step (fail))
                          as_aux_lemma =>
                           iterate 12 (try go_big_quiet_step (fail))
                           as_aux_lemma =>
                            iterate 12 (try go_big_quiet_step (fail))
                            as_aux_lemma =>
                             iterate 12 (try go_big_quiet_step (fail))
                             as_aux_lemma =>
                              iterate 12 (try go_big_quiet_step (fail))
                              as_aux_lemma =>
                               iterate 12 (try go_big_quiet_step (fail))
                               as_aux_lemma =>
                                iterate 12 (try go_big_quiet_step (fail))
                                as_aux_lemma =>
                                 repeat (go_big_quiet_step (fail))
                                 refine wpQuiet_nil ?_
                                 intro _ hw_
                                 obtain ⟨nq, hq_⟩ := hw_
                                 subst hq_
                                 try go_wp2
                                 repeat (go_quiet (fail); try go_wp2)
                                 go_roundg k3
                                 case measure => have := HJ5.out; have := HK2.out; have := HK3.out; (try clear hji46w); (try clear hji51w); (try clear hji46); (try clear hji51); omega
                                 case rel => exact ⟨(ji46), (by first | rfl | (simp; done) | (simp only [← hji46] <;> (first | rfl | simp)) | (simp [*]; done)), H', ⟨by have := HJ5.out; have := HK2.out; have := HK3.out; (try clear hji46w); (try clear hji51w); (try clear hji46); (try clear hji51); omega⟩, ⟨by (with_reducible repeat (first | apply Kd.R_alloc | apply Kd.R_drewN | apply Kd.R_drew)); exact HO_3.out⟩, ⟨by (with_reducible repeat (first | apply Kd.R_alloc | apply Kd.R_drewN | apply Kd.R_drew)); exact HO_6.out⟩, ⟨by (with_reducible repeat (first | refine blk_drewN ?_ _ | refine blk_drew ?_ | refine blk_alloc ?_ _)); exact BK889.out⟩, ⟨by repeat (first | (with_reducible first | exact HB.out | apply below_alloc | apply pw_below_drewN | apply below_drew1 | refine below_set ?_ GE889.out) | exact HB.out)⟩⟩
                       ·
                        exfalso; have z_ := HL0.out; have y_ := beq_eq_false_iff_ne.mp c100b0; omega
                   ·
                    rw [if_neg c49] at H
                    have c49b0 : (((rd_T81 t901 x8_3).f1) == (rd t892 (ji46))) = false := beq_eq_false_iff_ne.mpr c49
                    have c49b1 : (((rd_T81 t901 x8_3).f1) != (rd t892 (ji46))) = true := bne_iff_ne.mpr c49
                    exact absurd (H.trans (congrArg some HT)) (by decide)
                  ·
                   rw [if_neg c48] at H
                   exact absurd H (by simp)
                 ·
                  rw [if_neg c47] at H
                  exact absurd H (by simp)
                ·
                 rw [if_neg c45] at H
                 have c45b0 : (((rd_T81 t901 x8_3).f0) == (rd t892 x8_3)) = false := beq_eq_false_iff_ne.mpr c45
                 have c45b1 : (((rd_T81 t901 x8_3).f0) != (rd t892 x8_3)) = true := bne_iff_ne.mpr c45
                 exact absurd (H.trans (congrArg some HT)) (by decide)
               ·
                rw [if_neg c44] at H
                exact absurd H (by simp)
              ·
               rw [if_neg c43] at H
               exact absurd H (by simp)
             ·
              rw [if_neg c42] at H
              have c42b0 : decide (x8_3 < (t901.length : Int)) = false := decide_eq_false c42
              clear c42;replace H := Option.bind_eq_some_iff.mp H
              obtain ⟨t940, A1130, H⟩ := H
              replace H : (some t940) = some r := H
              have A113 := Aside0.mk A1130;clear A1130
              obtain rfl := Option.some.inj H
              go_wp2_with (first | (go_at_call 49; (with_reducible refine (tenorlaw8_awake.calls k3  t940 _ A113.out).mono ?_); rintro e w114 ⟨rfl, hb⟩; have n0_ := Aside0.mk (Kd.R_below (by (with_reducible repeat (first | apply Kd.R_alloc | apply Kd.R_drewN | apply Kd.R_drew)); exact HO_3.out) hb); have n1_ := Aside0.mk (Kd.R_below (by (with_reducible repeat (first | apply Kd.R_alloc | apply Kd.R_drewN | apply Kd.R_drew)); exact HO_6.out) hb); have n2_ := Aside0.mk (blk_below (g := gb889) (o := .cells #[.int .i64 a0_0, .int .i64 a0_1, .int .i64 a0_2, .int .i64 a0_3, .int .i64 a0_4, .int .i64 a0_5, .int .i64 a0_6, .int .i64 a0_7, .int .i64 a0_8, .slice A0_9 l0_9.length c0_9] 66 (0, 0)) (by (with_reducible repeat (first | refine blk_drewN ?_ _ | refine blk_drew ?_ | refine blk_alloc ?_ _)); exact BK889.out) hb); have n3_ := Aside0.mk (below_step (by repeat (first | (with_reducible first | exact HB.out | apply below_alloc | apply pw_below_drewN | apply below_drew1 | refine below_set ?_ GE889.out) | exact HB.out)) hb); clear HO_3; clear HO_6; clear BK889; clear HB; have HO_3 := n0_; have HO_6 := n1_; have BK889 := n2_; have HB := n3_; clear n0_ n1_ n2_ n3_; (try clear hb); (try clear hb2); (try clear hk); (try clear hi)))
              repeat (go_quiet (first | (go_at_call 49; (with_reducible refine (tenorlaw8_awake.calls k3  t940 _ A113.out).mono ?_); rintro e w114 ⟨rfl, hb⟩; have n0_ := Aside0.mk (Kd.R_below (by (with_reducible repeat (first | apply Kd.R_alloc | apply Kd.R_drewN | apply Kd.R_drew)); exact HO_3.out) hb); have n1_ := Aside0.mk (Kd.R_below (by (with_reducible repeat (first | apply Kd.R_alloc | apply Kd.R_drewN | apply Kd.R_drew)); exact HO_6.out) hb); have n2_ := Aside0.mk (blk_below (g := gb889) (o := .cells #[.int .i64 a0_0, .int .i64 a0_1, .int .i64 a0_2, .int .i64 a0_3, .int .i64 a0_4, .int .i64 a0_5, .int .i64 a0_6, .int .i64 a0_7, .int .i64 a0_8, .slice A0_9 l0_9.length c0_9] 66 (0, 0)) (by (with_reducible repeat (first | refine blk_drewN ?_ _ | refine blk_drew ?_ | refine blk_alloc ?_ _)); exact BK889.out) hb); have n3_ := Aside0.mk (below_step (by repeat (first | (with_reducible first | exact HB.out | apply below_alloc | apply pw_below_drewN | apply below_drew1 | refine below_set ?_ GE889.out) | exact HB.out)) hb); clear HO_3; clear HO_6; clear BK889; clear HB; have HO_3 := n0_; have HO_6 := n1_; have BK889 := n2_; have HB := n3_; clear n0_ n1_ n2_ n3_; (try clear hb); (try clear hb2); (try clear hk); (try clear hi))); try go_wp2_with (first | (go_at_call 49; (with_reducible refine (tenorlaw8_awake.calls k3  t940 _ A113.out).mono ?_); rintro e w114 ⟨rfl, hb⟩; have n0_ := Aside0.mk (Kd.R_below (by (with_reducible repeat (first | apply Kd.R_alloc | apply Kd.R_drewN | apply Kd.R_drew)); exact HO_3.out) hb); have n1_ := Aside0.mk (Kd.R_below (by (with_reducible repeat (first | apply Kd.R_alloc | apply Kd.R_drewN | apply Kd.R_drew)); exact HO_6.out) hb); have n2_ := Aside0.mk (blk_below (g := gb889) (o := .cells #[.int .i64 a0_0, .int .i64 a0_1, .int .i64 a0_2, .int .i64 a0_3, .int .i64 a0_4, .int .i64 a0_5, .int .i64 a0_6, .int .i64 a0_7, .int .i64 a0_8, .slice A0_9 l0_9.length c0_9] 66 (0, 0)) (by (with_reducible repeat (first | refine blk_drewN ?_ _ | refine blk_drew ?_ | refine blk_alloc ?_ _)); exact BK889.out) hb); have n3_ := Aside0.mk (below_step (by repeat (first | (with_reducible first | exact HB.out | apply below_alloc | apply pw_below_drewN | apply below_drew1 | refine below_set ?_ GE889.out) | exact HB.out)) hb); clear HO_3; clear HO_6; clear BK889; clear HB; have HO_3 := n0_; have HO_6 := n1_; have BK889 := n2_; have HB := n3_; clear n0_ n1_ n2_ n3_; (try clear hb); (try clear hb2); (try clear hk); (try clear hi))))
              go_ret
              exact ⟨by first | rfl | (simp [errW_none, errW_some] <;> rfl) | (simp [*, errW_none, errW_some] <;> rfl), by repeat (first | (with_reducible first | exact HB.out | apply below_alloc | apply pw_below_drewN | apply below_drew1 | refine below_set ?_ GE889.out) | exact HB.out)⟩
          ·
           rw [if_neg c37] at H
           have c37b0 : ((t901.length : Int) == (wrap64 ((t892.length : Int) - 1))) = false := beq_eq_false_iff_ne.mpr c37
           have c37b1 : ((t901.length : Int) != (wrap64 ((t892.length : Int) - 1))) = true := bne_iff_ne.mpr c37
           exact absurd (H.trans (congrArg some HT)) (by decide)
         ·
          rw [if_neg c36] at H
          have c36b0 : (t904 == 0) = false := beq_eq_false_iff_ne.mpr c36
          have c36b1 : (t904 != 0) = true := bne_iff_ne.mpr c36
          by_cases c119 : t904 = 51
          ·
           rw [if_pos c119] at H
           have c119b0 : (t904 == 51) = true := beq_iff_eq.mpr c119
           have c119b1 : (t904 != 51) = false := bne_eq_false_iff_eq.mpr c119
           clear c119
           by_cases c120 : (t901.length : Int) = 0
           ·
            rw [if_pos c120] at H
            have c120b0 : ((t901.length : Int) == 0) = true := beq_iff_eq.mpr c120
            have c120b1 : ((t901.length : Int) != 0) = false := bne_eq_false_iff_eq.mpr c120
            clear c120;replace H := Option.bind_eq_some_iff.mp H
            obtain ⟨t905, A1210, H⟩ := H
            replace H : (some t905) = some r := H
            have A121 := Aside0.mk A1210;clear A1210
            obtain rfl := Option.some.inj H
            obtain ⟨Ao122, co122, eo122⟩ := Kd.R_slice HO_3.out
            subst eo122
            have hcz123_0 : wr.cell? ⟨gb889, 0, none⟩ = some (.int .i64 a0_0) := (blk_cell BK889.out 0).trans rfl
            have hcz123_1 : wr.cell? ⟨gb889, 1, none⟩ = some (.int .i64 a0_1) := (blk_cell BK889.out 1).trans rfl
            have hcz123_2 : wr.cell? ⟨gb889, 2, none⟩ = some (.int .i64 a0_2) := (blk_cell BK889.out 2).trans rfl
            have hcz123_3 : wr.cell? ⟨gb889, 3, none⟩ = some (.int .i64 a0_3) := (blk_cell BK889.out 3).trans rfl
            have hcz123_4 : wr.cell? ⟨gb889, 4, none⟩ = some (.int .i64 a0_4) := (blk_cell BK889.out 4).trans rfl
            have hcz123_5 : wr.cell? ⟨gb889, 5, none⟩ = some (.int .i64 a0_5) := (blk_cell BK889.out 5).trans rfl
            have hcz123_6 : wr.cell? ⟨gb889, 6, none⟩ = some (.int .i64 a0_6) := (blk_cell BK889.out 6).trans rfl
            have hcz123_7 : wr.cell? ⟨gb889, 7, none⟩ = some (.int .i64 a0_7) := (blk_cell BK889.out 7).trans rfl
            have hcz123_8 : wr.cell? ⟨gb889, 8, none⟩ = some (.int .i64 a0_8) := (blk_cell BK889.out 8).trans rfl
            have hcz123_9 : wr.cell? ⟨gb889, 9, none⟩ = some (.slice A0_9 l0_9.length c0_9) := (blk_cell BK889.out 9).trans rfl
            have hfz123_0 := blk_frozen BK889.out 0;have hfz123_1 := blk_frozen BK889.out 1;have hfz123_2 := blk_frozen BK889.out 2;have hfz123_3 := blk_frozen BK889.out 3;have hfz123_4 := blk_frozen BK889.out 4;have hfz123_5 := blk_frozen BK889.out 5;have hfz123_6 := blk_frozen BK889.out 6;have hfz123_7 := blk_frozen BK889.out 7;have hfz123_8 := blk_frozen BK889.out 8;have hfz123_9 := blk_frozen BK889.out 9
            go_wp2_with (first | (go_at_call 54; (with_reducible refine (sched_Periods.calls k2 a0_0 a0_1 a0_2 a0_3 a0_4 a0_5 a0_6 a0_7 a0_8 _ _ l0_9 t901 t904 _ ?side1 ?side2 A35.out).mono ?_); (case side1 => repeat (first | exact (Kd.C_below HR0_9.out HB.out) | (with_reducible refine Kd.C_alloc ?_ _) | (with_reducible refine Kd.C_drewN ?_ _) | (with_reducible refine Kd.C_drew ?_))); (case side2 => exact HC0_9.out); rintro e w124 ⟨v902, rfl, ho0, hb⟩; have n0_ := Aside0.mk (Kd.R_below (by (with_reducible repeat (first | apply Kd.R_alloc | apply Kd.R_drewN | apply Kd.R_drew)); exact HO_3.out) hb); have n1_ := Aside0.mk (Kd.R_lower ho0 (below_size (by repeat (first | (with_reducible first | exact HB.out | apply below_alloc | apply pw_below_drewN | apply below_drew1 | refine below_set ?_ GE889.out) | exact HB.out)))); have n2_ := Aside0.mk (blk_below (g := gb889) (o := .cells #[.int .i64 a0_0, .int .i64 a0_1, .int .i64 a0_2, .int .i64 a0_3, .int .i64 a0_4, .int .i64 a0_5, .int .i64 a0_6, .int .i64 a0_7, .int .i64 a0_8, .slice A0_9 l0_9.length c0_9] 66 (0, 0)) (by (with_reducible repeat (first | refine blk_drewN ?_ _ | refine blk_drew ?_ | refine blk_alloc ?_ _)); exact BK889.out) hb); have n3_ := Aside0.mk (below_step (by repeat (first | (with_reducible first | exact HB.out | apply below_alloc | apply pw_below_drewN | apply below_drew1 | refine below_set ?_ GE889.out) | exact HB.out)) hb); clear HO_3; clear BK889; clear HB; have HO_3 := n0_; have HO903 := n1_; have BK889 := n2_; have HB := n3_; clear n0_ n1_ n2_ n3_; (try clear hb); (try clear hb2); (try clear hk); (try clear hi); (try clear ho0); obtain ⟨Ao125, co125, eo125⟩ := Kd.R_slice HO903.out; subst eo125) | (go_at_call 49; (with_reducible refine (tenorlaw8_awake.calls k2  t905 _ A121.out).mono ?_); rintro e w126 ⟨rfl, hb⟩; have n0_ := Aside0.mk (Kd.R_below (by (with_reducible repeat (first | apply Kd.R_alloc | apply Kd.R_drewN | apply Kd.R_drew)); exact HO_3.out) hb); have n1_ := Aside0.mk (Kd.R_below (by (with_reducible repeat (first | apply Kd.R_alloc | apply Kd.R_drewN | apply Kd.R_drew)); exact HO903.out) hb); have n2_ := Aside0.mk (blk_below (g := gb889) (o := .cells #[.int .i64 a0_0, .int .i64 a0_1, .int .i64 a0_2, .int .i64 a0_3, .int .i64 a0_4, .int .i64 a0_5, .int .i64 a0_6, .int .i64 a0_7, .int .i64 a0_8, .slice A0_9 l0_9.length c0_9] 66 (0, 0)) (by (with_reducible repeat (first | refine blk_drewN ?_ _ | refine blk_drew ?_ | refine blk_alloc ?_ _)); exact BK889.out) hb); have n3_ := Aside0.mk (below_step (by repeat (first | (with_reducible first | exact HB.out | apply below_alloc | apply pw_below_drewN | apply below_drew1 | refine below_set ?_ GE889.out) | exact HB.out)) hb); clear HO_3; clear HO903; clear BK889; clear HB; have HO_3 := n0_; have HO903 := n1_; have BK889 := n2_; have HB := n3_; clear n0_ n1_ n2_ n3_; (try clear hb); (try clear hb2); (try clear hk); (try clear hi)))
            repeat (go_quiet (first | (go_at_call 54; (with_reducible refine (sched_Periods.calls k2 a0_0 a0_1 a0_2 a0_3 a0_4 a0_5 a0_6 a0_7 a0_8 _ _ l0_9 t901 t904 _ ?side1 ?side2 A35.out).mono ?_); (case side1 => repeat (first | exact (Kd.C_below HR0_9.out HB.out) | (with_reducible refine Kd.C_alloc ?_ _) | (with_reducible refine Kd.C_drewN ?_ _) | (with_reducible refine Kd.C_drew ?_))); (case side2 => exact HC0_9.out); rintro e w124 ⟨v902, rfl, ho0, hb⟩; have n0_ := Aside0.mk (Kd.R_below (by (with_reducible repeat (first | apply Kd.R_alloc | apply Kd.R_drewN | apply Kd.R_drew)); exact HO_3.out) hb); have n1_ := Aside0.mk (Kd.R_lower ho0 (below_size (by repeat (first | (with_reducible first | exact HB.out | apply below_alloc | apply pw_below_drewN | apply below_drew1 | refine below_set ?_ GE889.out) | exact HB.out)))); have n2_ := Aside0.mk (blk_below (g := gb889) (o := .cells #[.int .i64 a0_0, .int .i64 a0_1, .int .i64 a0_2, .int .i64 a0_3, .int .i64 a0_4, .int .i64 a0_5, .int .i64 a0_6, .int .i64 a0_7, .int .i64 a0_8, .slice A0_9 l0_9.length c0_9] 66 (0, 0)) (by (with_reducible repeat (first | refine blk_drewN ?_ _ | refine blk_drew ?_ | refine blk_alloc ?_ _)); exact BK889.out) hb); have n3_ := Aside0.mk (below_step (by repeat (first | (with_reducible first | exact HB.out | apply below_alloc | apply pw_below_drewN | apply below_drew1 | refine below_set ?_ GE889.out) | exact HB.out)) hb); clear HO_3; clear BK889; clear HB; have HO_3 := n0_; have HO903 := n1_; have BK889 := n2_; have HB := n3_; clear n0_ n1_ n2_ n3_; (try clear hb); (try clear hb2); (try clear hk); (try clear hi); (try clear ho0); obtain ⟨Ao125, co125, eo125⟩ := Kd.R_slice HO903.out; subst eo125) | (go_at_call 49; (with_reducible refine (tenorlaw8_awake.calls k2  t905 _ A121.out).mono ?_); rintro e w126 ⟨rfl, hb⟩; have n0_ := Aside0.mk (Kd.R_below (by (with_reducible repeat (first | apply Kd.R_alloc | apply Kd.R_drewN | apply Kd.R_drew)); exact HO_3.out) hb); have n1_ := Aside0.mk (Kd.R_below (by (with_reducible repeat (first | apply Kd.R_alloc | apply Kd.R_drewN | apply Kd.R_drew)); exact HO903.out) hb); have n2_ := Aside0.mk (blk_below (g := gb889) (o := .cells #[.int .i64 a0_0, .int .i64 a0_1, .int .i64 a0_2, .int .i64 a0_3, .int .i64 a0_4, .int .i64 a0_5, .int .i64 a0_6, .int .i64 a0_7, .int .i64 a0_8, .slice A0_9 l0_9.length c0_9] 66 (0, 0)) (by (with_reducible repeat (first | refine blk_drewN ?_ _ | refine blk_drew ?_ | refine blk_alloc ?_ _)); exact BK889.out) hb); have n3_ := Aside0.mk (below_step (by repeat (first | (with_reducible first | exact HB.out | apply below_alloc | apply pw_below_drewN | apply below_drew1 | refine below_set ?_ GE889.out) | exact HB.out)) hb); clear HO_3; clear HO903; clear BK889; clear HB; have HO_3 := n0_; have HO903 := n1_; have BK889 := n2_; have HB := n3_; clear n0_ n1_ n2_ n3_; (try clear hb); (try clear hb2); (try clear hk); (try clear hi))); try go_wp2_with (first | (go_at_call 54; (with_reducible refine (sched_Periods.calls k2 a0_0 a0_1 a0_2 a0_3 a0_4 a0_5 a0_6 a0_7 a0_8 _ _ l0_9 t901 t904 _ ?side1 ?side2 A35.out).mono ?_); (case side1 => repeat (first | exact (Kd.C_below HR0_9.out HB.out) | (with_reducible refine Kd.C_alloc ?_ _) | (with_reducible refine Kd.C_drewN ?_ _) | (with_reducible refine Kd.C_drew ?_))); (case side2 => exact HC0_9.out); rintro e w124 ⟨v902, rfl, ho0, hb⟩; have n0_ := Aside0.mk (Kd.R_below (by (with_reducible repeat (first | apply Kd.R_alloc | apply Kd.R_drewN | apply Kd.R_drew)); exact HO_3.out) hb); have n1_ := Aside0.mk (Kd.R_lower ho0 (below_size (by repeat (first | (with_reducible first | exact HB.out | apply below_alloc | apply pw_below_drewN | apply below_drew1 | refine below_set ?_ GE889.out) | exact HB.out)))); have n2_ := Aside0.mk (blk_below (g := gb889) (o := .cells #[.int .i64 a0_0, .int .i64 a0_1, .int .i64 a0_2, .int .i64 a0_3, .int .i64 a0_4, .int .i64 a0_5, .int .i64 a0_6, .int .i64 a0_7, .int .i64 a0_8, .slice A0_9 l0_9.length c0_9] 66 (0, 0)) (by (with_reducible repeat (first | refine blk_drewN ?_ _ | refine blk_drew ?_ | refine blk_alloc ?_ _)); exact BK889.out) hb); have n3_ := Aside0.mk (below_step (by repeat (first | (with_reducible first | exact HB.out | apply below_alloc | apply pw_below_drewN | apply below_drew1 | refine below_set ?_ GE889.out) | exact HB.out)) hb); clear HO_3; clear BK889; clear HB; have HO_3 := n0_; have HO903 := n1_; have BK889 := n2_; have HB := n3_; clear n0_ n1_ n2_ n3_; (try clear hb); (try clear hb2); (try clear hk); (try clear hi); (try clear ho0); obtain ⟨Ao125, co125, eo125⟩ := Kd.R_slice HO903.out; subst eo125) | (go_at_call 49; (with_reducible refine (tenorlaw8_awake.calls k2  t905 _ A121.out).mono ?_); rintro e w126 ⟨rfl, hb⟩; have n0_ := Aside0.mk (Kd.R_below (by (with_reducible repeat (first | apply Kd.R_alloc | apply Kd.R_drewN | apply Kd.R_drew)); exact HO_3.out) hb); have n1_ := Aside0.mk (Kd.R_below (by (with_reducible repeat (first | apply Kd.R_alloc | apply Kd.R_drewN | apply Kd.R_drew)); exact HO903.out) hb); have n2_ := Aside0.mk (blk_below (g := gb889) (o := .cells #[.int .i64 a0_0, .int .i64 a0_1, .int .i64 a0_2, .int .i64 a0_3, .int .i64 a0_4, .int .i64 a0_5, .int .i64 a0_6, .int .i64 a0_7, .int .i64 a0_8, .slice A0_9 l0_9.length c0_9] 66 (0, 0)) (by (with_reducible repeat (first | refine blk_drewN ?_ _ | refine blk_drew ?_ | refine blk_alloc ?_ _)); exact BK889.out) hb); have n3_ := Aside0.mk (below_step (by repeat (first | (with_reducible first | exact HB.out | apply below_alloc | apply pw_below_drewN | apply below_drew1 | refine below_set ?_ GE889.out) | exact HB.out)) hb); clear HO_3; clear HO903; clear BK889; clear HB; have HO_3 := n0_; have HO903 := n1_; have BK889 := n2_; have HB := n3_; clear n0_ n1_ n2_ n3_; (try clear hb); (try clear hb2); (try clear hk); (try clear hi))))
            go_ret
            exact ⟨by first | rfl | (simp [errW_none, errW_some] <;> rfl) | (simp [*, errW_none, errW_some] <;> rfl), by repeat (first | (with_reducible first | exact HB.out | apply below_alloc | apply pw_below_drewN | apply below_drew1 | refine below_set ?_ GE889.out) | exact HB.out)⟩
           ·
            rw [if_neg c120] at H
            have c120b0 : ((t901.length : Int) == 0) = false := beq_eq_false_iff_ne.mpr c120
            have c120b1 : ((t901.length : Int) != 0) = true := bne_iff_ne.mpr c120
            have c120b2 : ¬ (t901 = []) := fun h_ => c120 (by rw [h_]; rfl)
            exact absurd (H.trans (congrArg some HT)) (by decide)
          ·
           rw [if_neg c119] at H
           have c119b0 : (t904 == 51) = false := beq_eq_false_iff_ne.mpr c119
           have c119b1 : (t904 != 51) = true := bne_iff_ne.mpr c119
           exact absurd (H.trans (congrArg some HT)) (by decide)
  ·
   rw [if_neg c5] at H
   have c5b0 : (t895 == 0) = false := beq_eq_false_iff_ne.mpr c5
   have c5b1 : (t895 != 0) = true := bne_iff_ne.mpr c5
   by_cases c134 : (t892.length : Int) = 0
   ·
    rw [if_pos c134] at H
    have c134b0 : ((t892.length : Int) == 0) = true := beq_iff_eq.mpr c134
    have c134b1 : ((t892.length : Int) != 0) = false := bne_eq_false_iff_eq.mpr c134
    clear c134;replace H := Option.bind_eq_some_iff.mp H
    obtain ⟨t896, A1350, H⟩ := H
    replace H : (some t896) = some r := H
    have A135 := Aside0.mk A1350;clear A1350
    obtain rfl := Option.some.inj H
    go_enter Try.func19, Try.ntmps19
    go_wp2_with (first | ((with_reducible refine gate_dst (N := 1) rfl ?_); (try (refine gate_guard (by rfl) ?_; dsimp only)); refine box_event ?hg (N := 1) ?hd (cs := #[.int .i64 a0_0, .int .i64 a0_1, .int .i64 a0_2, .int .i64 a0_3, .int .i64 a0_4, .int .i64 a0_5, .int .i64 a0_6, .int .i64 a0_7, .int .i64 a0_8, .slice A0_9 l0_9.length c0_9]) (t := 66) ?hr ?_; (case hd => rfl); (case hg => rfl); (case hr => first | (go_simp; done) | (go_simp; rfl)); intro gb889 hg w136 hbox hb; have n0_ := Aside0.mk (below_step (by repeat (first | (with_reducible first | exact HB.out | apply below_alloc | apply pw_below_drewN | apply below_drew1) | exact HB.out)) hb); have n1_ := Aside0.mk (hbox); have n2_ := Aside0.mk ((by rw [hg]; exact (below_size (by repeat (first | (with_reducible first | exact HB.out | apply below_alloc | apply pw_below_drewN | apply below_drew1) | exact HB.out))) : w.heap.size ≤ gb889)); have n3_ := Aside0.mk ((by rw [hg]; exact (below_size (by repeat (first | (with_reducible first | exact HB.out | apply below_alloc | apply pw_below_drewN | apply below_drew1) | exact HB.out))) : w.heap.size ≤ gb889)); clear HB; have HB := n0_; have BK889 := n1_; have GW889 := n2_; have GE889 := n3_; clear n0_ n1_ n2_ n3_; clear hb hbox hg; have hcz137_0 : w136.cell? ⟨gb889, 0, none⟩ = some (.int .i64 a0_0) := (blk_cell BK889.out 0).trans rfl; have hcz137_1 : w136.cell? ⟨gb889, 1, none⟩ = some (.int .i64 a0_1) := (blk_cell BK889.out 1).trans rfl; have hcz137_2 : w136.cell? ⟨gb889, 2, none⟩ = some (.int .i64 a0_2) := (blk_cell BK889.out 2).trans rfl; have hcz137_3 : w136.cell? ⟨gb889, 3, none⟩ = some (.int .i64 a0_3) := (blk_cell BK889.out 3).trans rfl; have hcz137_4 : w136.cell? ⟨gb889, 4, none⟩ = some (.int .i64 a0_4) := (blk_cell BK889.out 4).trans rfl; have hcz137_5 : w136.cell? ⟨gb889, 5, none⟩ = some (.int .i64 a0_5) := (blk_cell BK889.out 5).trans rfl; have hcz137_6 : w136.cell? ⟨gb889, 6, none⟩ = some (.int .i64 a0_6) := (blk_cell BK889.out 6).trans rfl; have hcz137_7 : w136.cell? ⟨gb889, 7, none⟩ = some (.int .i64 a0_7) := (blk_cell BK889.out 7).trans rfl; have hcz137_8 : w136.cell? ⟨gb889, 8, none⟩ = some (.int .i64 a0_8) := (blk_cell BK889.out 8).trans rfl; have hcz137_9 : w136.cell? ⟨gb889, 9, none⟩ = some (.slice A0_9 l0_9.length c0_9) := (blk_cell BK889.out 9).trans rfl; have hfz137_0 := blk_frozen BK889.out 0; have hfz137_1 := blk_frozen BK889.out 1; have hfz137_2 := blk_frozen BK889.out 2; have hfz137_3 := blk_frozen BK889.out 3; have hfz137_4 := blk_frozen BK889.out 4; have hfz137_5 := blk_frozen BK889.out 5; have hfz137_6 := blk_frozen BK889.out 6; have hfz137_7 := blk_frozen BK889.out 7; have hfz137_8 := blk_frozen BK889.out 8; have hfz137_9 := blk_frozen BK889.out 9) | (go_at_call 53; (with_reducible refine (tenorlaw8_small.calls k a0_0 a0_1 a0_2 a0_3 a0_4 a0_5 a0_6 a0_7 a0_8 _ _ l0_9 true _ ?side1 ?side2 A2.out).mono ?_); (case side1 => repeat (first | exact (Kd.C_below HR0_9.out HB.out) | (with_reducible refine Kd.C_alloc ?_ _) | (with_reducible refine Kd.C_drewN ?_ _) | (with_reducible refine Kd.C_drew ?_))); (case side2 => exact HC0_9.out); rintro e w138 ⟨rfl, hb⟩; have n0_ := Aside0.mk (blk_below (g := gb889) (o := .cells #[.int .i64 a0_0, .int .i64 a0_1, .int .i64 a0_2, .int .i64 a0_3, .int .i64 a0_4, .int .i64 a0_5, .int .i64 a0_6, .int .i64 a0_7, .int .i64 a0_8, .slice A0_9 l0_9.length c0_9] 66 (0, 0)) (by (with_reducible repeat (first | refine blk_drewN ?_ _ | refine blk_drew ?_ | refine blk_alloc ?_ _)); exact BK889.out) hb); have n1_ := Aside0.mk (below_step (by repeat (first | (with_reducible first | exact HB.out | apply below_alloc | apply pw_below_drewN | apply below_drew1 | refine below_set ?_ GE889.out) | exact HB.out)) hb); clear BK889; clear HB; have BK889 := n0_; have HB := n1_; clear n0_ n1_; (try clear hb); (try clear hb2); (try clear hk); (try clear hi); have hcz139_0 : w138.cell? ⟨gb889, 0, none⟩ = some (.int .i64 a0_0) := (blk_cell BK889.out 0).trans rfl; have hcz139_1 : w138.cell? ⟨gb889, 1, none⟩ = some (.int .i64 a0_1) := (blk_cell BK889.out 1).trans rfl; have hcz139_2 : w138.cell? ⟨gb889, 2, none⟩ = some (.int .i64 a0_2) := (blk_cell BK889.out 2).trans rfl; have hcz139_3 : w138.cell? ⟨gb889, 3, none⟩ = some (.int .i64 a0_3) := (blk_cell BK889.out 3).trans rfl; have hcz139_4 : w138.cell? ⟨gb889, 4, none⟩ = some (.int .i64 a0_4) := (blk_cell BK889.out 4).trans rfl; have hcz139_5 : w138.cell? ⟨gb889, 5, none⟩ = some (.int .i64 a0_5) := (blk_cell BK889.out 5).trans rfl; have hcz139_6 : w138.cell? ⟨gb889, 6, none⟩ = some (.int .i64 a0_6) := (blk_cell BK889.out 6).trans rfl; have hcz139_7 : w138.cell? ⟨gb889, 7, none⟩ = some (.int .i64 a0_7) := (blk_cell BK889.out 7).trans rfl; have hcz139_8 : w138.cell? ⟨gb889, 8, none⟩ = some (.int .i64 a0_8) := (blk_cell BK889.out 8).trans rfl; have hcz139_9 : w138.cell? ⟨gb889, 9, none⟩ = some (.slice A0_9 l0_9.length c0_9) := (blk_cell BK889.out 9).trans rfl; have hfz139_0 := blk_frozen BK889.out 0; have hfz139_1 := blk_frozen BK889.out 1; have hfz139_2 := blk_frozen BK889.out 2; have hfz139_3 := blk_frozen BK889.out 3; have hfz139_4 := blk_frozen BK889.out 4; have hfz139_5 := blk_frozen BK889.out 5; have hfz139_6 := blk_frozen BK889.out 6; have hfz139_7 := blk_frozen BK889.out 7; have hfz139_8 := blk_frozen BK889.out 8; have hfz139_9 := blk_frozen BK889.out 9) | (go_at_call 50; (with_reducible refine (sched_Dates.calls k a0_0 a0_1 a0_2 a0_3 a0_4 a0_5 a0_6 a0_7 a0_8 _ _ l0_9 t892 t895 _ ?side1 ?side2 A4.out).mono ?_); (case side1 => repeat (first | exact (Kd.C_below HR0_9.out HB.out) | (with_reducible refine Kd.C_alloc ?_ _) | (with_reducible refine Kd.C_drewN ?_ _) | (with_reducible refine Kd.C_drew ?_))); (case side2 => exact HC0_9.out); rintro e w140 ⟨v893, rfl, ho0, hb⟩; have n0_ := Aside0.mk (Kd.R_lower ho0 (below_size (by repeat (first | (with_reducible first | exact HB.out | apply below_alloc | apply pw_below_drewN | apply below_drew1 | refine below_set ?_ GE889.out) | exact HB.out)))); have n1_ := Aside0.mk (blk_below (g := gb889) (o := .cells #[.int .i64 a0_0, .int .i64 a0_1, .int .i64 a0_2, .int .i64 a0_3, .int .i64 a0_4, .int .i64 a0_5, .int .i64 a0_6, .int .i64 a0_7, .int .i64 a0_8, .slice A0_9 l0_9.length c0_9] 66 (0, 0)) (by (with_reducible repeat (first | refine blk_drewN ?_ _ | refine blk_drew ?_ | refine blk_alloc ?_ _)); exact BK889.out) hb); have n2_ := Aside0.mk (below_step (by repeat (first | (with_reducible first | exact HB.out | apply below_alloc | apply pw_below_drewN | apply below_drew1 | refine below_set ?_ GE889.out) | exact HB.out)) hb); clear BK889; clear HB; have HO894 := n0_; have BK889 := n1_; have HB := n2_; clear n0_ n1_ n2_; (try clear hb); (try clear hb2); (try clear hk); (try clear hi); (try clear ho0); obtain ⟨Ao141, co141, eo141⟩ := Kd.R_slice HO894.out; subst eo141) | (go_at_call 49; (with_reducible refine (tenorlaw8_awake.calls k  t896 _ A135.out).mono ?_); rintro e w142 ⟨rfl, hb⟩; have n0_ := Aside0.mk (Kd.R_below (by (with_reducible repeat (first | apply Kd.R_alloc | apply Kd.R_drewN | apply Kd.R_drew)); exact HO894.out) hb); have n1_ := Aside0.mk (blk_below (g := gb889) (o := .cells #[.int .i64 a0_0, .int .i64 a0_1, .int .i64 a0_2, .int .i64 a0_3, .int .i64 a0_4, .int .i64 a0_5, .int .i64 a0_6, .int .i64 a0_7, .int .i64 a0_8, .slice A0_9 l0_9.length c0_9] 66 (0, 0)) (by (with_reducible repeat (first | refine blk_drewN ?_ _ | refine blk_drew ?_ | refine blk_alloc ?_ _)); exact BK889.out) hb); have n2_ := Aside0.mk (below_step (by repeat (first | (with_reducible first | exact HB.out | apply below_alloc | apply pw_below_drewN | apply below_drew1 | refine below_set ?_ GE889.out) | exact HB.out)) hb); clear HO894; clear BK889; clear HB; have HO894 := n0_; have BK889 := n1_; have HB := n2_; clear n0_ n1_ n2_; (try clear hb); (try clear hb2); (try clear hk); (try clear hi)))
    repeat (go_quiet (first | ((with_reducible refine gate_dst (N := 1) rfl ?_); (try (refine gate_guard (by rfl) ?_; dsimp only)); refine box_event ?hg (N := 1) ?hd (cs := #[.int .i64 a0_0, .int .i64 a0_1, .int .i64 a0_2, .int .i64 a0_3, .int .i64 a0_4, .int .i64 a0_5, .int .i64 a0_6, .int .i64 a0_7, .int .i64 a0_8, .slice A0_9 l0_9.length c0_9]) (t := 66) ?hr ?_; (case hd => rfl); (case hg => rfl); (case hr => first | (go_simp; done) | (go_simp; rfl)); intro gb889 hg w136 hbox hb; have n0_ := Aside0.mk (below_step (by repeat (first | (with_reducible first | exact HB.out | apply below_alloc | apply pw_below_drewN | apply below_drew1) | exact HB.out)) hb); have n1_ := Aside0.mk (hbox); have n2_ := Aside0.mk ((by rw [hg]; exact (below_size (by repeat (first | (with_reducible first | exact HB.out | apply below_alloc | apply pw_below_drewN | apply below_drew1) | exact HB.out))) : w.heap.size ≤ gb889)); have n3_ := Aside0.mk ((by rw [hg]; exact (below_size (by repeat (first | (with_reducible first | exact HB.out | apply below_alloc | apply pw_below_drewN | apply below_drew1) | exact HB.out))) : w.heap.size ≤ gb889)); clear HB; have HB := n0_; have BK889 := n1_; have GW889 := n2_; have GE889 := n3_; clear n0_ n1_ n2_ n3_; clear hb hbox hg; have hcz137_0 : w136.cell? ⟨gb889, 0, none⟩ = some (.int .i64 a0_0) := (blk_cell BK889.out 0).trans rfl; have hcz137_1 : w136.cell? ⟨gb889, 1, none⟩ = some (.int .i64 a0_1) := (blk_cell BK889.out 1).trans rfl; have hcz137_2 : w136.cell? ⟨gb889, 2, none⟩ = some (.int .i64 a0_2) := (blk_cell BK889.out 2).trans rfl; have hcz137_3 : w136.cell? ⟨gb889, 3, none⟩ = some (.int .i64 a0_3) := (blk_cell BK889.out 3).trans rfl; have hcz137_4 : w136.cell? ⟨gb889, 4, none⟩ = some (.int .i64 a0_4) := (blk_cell BK889.out 4).trans rfl; have hcz137_5 : w136.cell? ⟨gb889, 5, none⟩ = some (.int .i64 a0_5) := (blk_cell BK889.out 5).trans rfl; have hcz137_6 : w136.cell? ⟨gb889, 6, none⟩ = some (.int .i64 a0_6) := (blk_cell BK889.out 6).trans rfl; have hcz137_7 : w136.cell? ⟨gb889, 7, none⟩ = some (.int .i64 a0_7) := (blk_cell BK889.out 7).trans rfl; have hcz137_8 : w136.cell? ⟨gb889, 8, none⟩ = some (.int .i64 a0_8) := (blk_cell BK889.out 8).trans rfl; have hcz137_9 : w136.cell? ⟨gb889, 9, none⟩ = some (.slice A0_9 l0_9.length c0_9) := (blk_cell BK889.out 9).trans rfl; have hfz137_0 := blk_frozen BK889.out 0; have hfz137_1 := blk_frozen BK889.out 1; have hfz137_2 := blk_frozen BK889.out 2; have hfz137_3 := blk_frozen BK889.out 3; have hfz137_4 := blk_frozen BK889.out 4; have hfz137_5 := blk_frozen BK889.out 5; have hfz137_6 := blk_frozen BK889.out 6; have hfz137_7 := blk_frozen BK889.out 7; have hfz137_8 := blk_frozen BK889.out 8; have hfz137_9 := blk_frozen BK889.out 9) | (go_at_call 53; (with_reducible refine (tenorlaw8_small.calls k a0_0 a0_1 a0_2 a0_3 a0_4 a0_5 a0_6 a0_7 a0_8 _ _ l0_9 true _ ?side1 ?side2 A2.out).mono ?_); (case side1 => repeat (first | exact (Kd.C_below HR0_9.out HB.out) | (with_reducible refine Kd.C_alloc ?_ _) | (with_reducible refine Kd.C_drewN ?_ _) | (with_reducible refine Kd.C_drew ?_))); (case side2 => exact HC0_9.out); rintro e w138 ⟨rfl, hb⟩; have n0_ := Aside0.mk (blk_below (g := gb889) (o := .cells #[.int .i64 a0_0, .int .i64 a0_1, .int .i64 a0_2, .int .i64 a0_3, .int .i64 a0_4, .int .i64 a0_5, .int .i64 a0_6, .int .i64 a0_7, .int .i64 a0_8, .slice A0_9 l0_9.length c0_9] 66 (0, 0)) (by (with_reducible repeat (first | refine blk_drewN ?_ _ | refine blk_drew ?_ | refine blk_alloc ?_ _)); exact BK889.out) hb); have n1_ := Aside0.mk (below_step (by repeat (first | (with_reducible first | exact HB.out | apply below_alloc | apply pw_below_drewN | apply below_drew1 | refine below_set ?_ GE889.out) | exact HB.out)) hb); clear BK889; clear HB; have BK889 := n0_; have HB := n1_; clear n0_ n1_; (try clear hb); (try clear hb2); (try clear hk); (try clear hi); have hcz139_0 : w138.cell? ⟨gb889, 0, none⟩ = some (.int .i64 a0_0) := (blk_cell BK889.out 0).trans rfl; have hcz139_1 : w138.cell? ⟨gb889, 1, none⟩ = some (.int .i64 a0_1) := (blk_cell BK889.out 1).trans rfl; have hcz139_2 : w138.cell? ⟨gb889, 2, none⟩ = some (.int .i64 a0_2) := (blk_cell BK889.out 2).trans rfl; have hcz139_3 : w138.cell? ⟨gb889, 3, none⟩ = some (.int .i64 a0_3) := (blk_cell BK889.out 3).trans rfl; have hcz139_4 : w138.cell? ⟨gb889, 4, none⟩ = some (.int .i64 a0_4) := (blk_cell BK889.out 4).trans rfl; have hcz139_5 : w138.cell? ⟨gb889, 5, none⟩ = some (.int .i64 a0_5) := (blk_cell BK889.out 5).trans rfl; have hcz139_6 : w138.cell? ⟨gb889, 6, none⟩ = some (.int .i64 a0_6) := (blk_cell BK889.out 6).trans rfl; have hcz139_7 : w138.cell? ⟨gb889, 7, none⟩ = some (.int .i64 a0_7) := (blk_cell BK889.out 7).trans rfl; have hcz139_8 : w138.cell? ⟨gb889, 8, none⟩ = some (.int .i64 a0_8) := (blk_cell BK889.out 8).trans rfl; have hcz139_9 : w138.cell? ⟨gb889, 9, none⟩ = some (.slice A0_9 l0_9.length c0_9) := (blk_cell BK889.out 9).trans rfl; have hfz139_0 := blk_frozen BK889.out 0; have hfz139_1 := blk_frozen BK889.out 1; have hfz139_2 := blk_frozen BK889.out 2; have hfz139_3 := blk_frozen BK889.out 3; have hfz139_4 := blk_frozen BK889.out 4; have hfz139_5 := blk_frozen BK889.out 5; have hfz139_6 := blk_frozen BK889.out 6; have hfz139_7 := blk_frozen BK889.out 7; have hfz139_8 := blk_frozen BK889.out 8; have hfz139_9 := blk_frozen BK889.out 9) | (go_at_call 50; (with_reducible refine (sched_Dates.calls k a0_0 a0_1 a0_2 a0_3 a0_4 a0_5 a0_6 a0_7 a0_8 _ _ l0_9 t892 t895 _ ?side1 ?side2 A4.out).mono ?_); (case side1 => repeat (first | exact (Kd.C_below HR0_9.out HB.out) | (with_reducible refine Kd.C_alloc ?_ _) | (with_reducible refine Kd.C_drewN ?_ _) | (with_reducible refine Kd.C_drew ?_))); (case side2 => exact HC0_9.out); rintro e w140 ⟨v893, rfl, ho0, hb⟩; have n0_ := Aside0.mk (Kd.R_lower ho0 (below_size (by repeat (first | (with_reducible first | exact HB.out | apply below_alloc | apply pw_below_drewN | apply below_drew1 | refine below_set ?_ GE889.out) | exact HB.out)))); have n1_ := Aside0.mk (blk_below (g := gb889) (o := .cells #[.int .i64 a0_0, .int .i64 a0_1, .int .i64 a0_2, .int .i64 a0_3, .int .i64 a0_4, .int .i64 a0_5, .int .i64 a0_6, .int .i64 a0_7, .int .i64 a0_8, .slice A0_9 l0_9.length c0_9] 66 (0, 0)) (by (with_reducible repeat (first | refine blk_drewN ?_ _ | refine blk_drew ?_ | refine blk_alloc ?_ _)); exact BK889.out) hb); have n2_ := Aside0.mk (below_step (by repeat (first | (with_reducible first | exact HB.out | apply below_alloc | apply pw_below_drewN | apply below_drew1 | refine below_set ?_ GE889.out) | exact HB.out)) hb); clear BK889; clear HB; have HO894 := n0_; have BK889 := n1_; have HB := n2_; clear n0_ n1_ n2_; (try clear hb); (try clear hb2); (try clear hk); (try clear hi); (try clear ho0); obtain ⟨Ao141, co141, eo141⟩ := Kd.R_slice HO894.out; subst eo141) | (go_at_call 49; (with_reducible refine (tenorlaw8_awake.calls k  t896 _ A135.out).mono ?_); rintro e w142 ⟨rfl, hb⟩; have n0_ := Aside0.mk (Kd.R_below (by (with_reducible repeat (first | apply Kd.R_alloc | apply Kd.R_drewN | apply Kd.R_drew)); exact HO894.out) hb); have n1_ := Aside0.mk (blk_below (g := gb889) (o := .cells #[.int .i64 a0_0, .int .i64 a0_1, .int .i64 a0_2, .int .i64 a0_3, .int .i64 a0_4, .int .i64 a0_5, .int .i64 a0_6, .int .i64 a0_7, .int .i64 a0_8, .slice A0_9 l0_9.length c0_9] 66 (0, 0)) (by (with_reducible repeat (first | refine blk_drewN ?_ _ | refine blk_drew ?_ | refine blk_alloc ?_ _)); exact BK889.out) hb); have n2_ := Aside0.mk (below_step (by repeat (first | (with_reducible first | exact HB.out | apply below_alloc | apply pw_below_drewN | apply below_drew1 | refine below_set ?_ GE889.out) | exact HB.out)) hb); clear HO894; clear BK889; clear HB; have HO894 := n0_; have BK889 := n1_; have HB := n2_; clear n0_ n1_ n2_; (try clear hb); (try clear hb2); (try clear hk); (try clear hi))); try go_wp2_with (first | ((with_reducible refine gate_dst (N := 1) rfl ?_); (try (refine gate_guard (by rfl) ?_; dsimp only)); refine box_event ?hg (N := 1) ?hd (cs := #[.int .i64 a0_0, .int .i64 a0_1, .int .i64 a0_2, .int .i64 a0_3, .int .i64 a0_4, .int .i64 a0_5, .int .i64 a0_6, .int .i64 a0_7, .int .i64 a0_8, .slice A0_9 l0_9.length c0_9]) (t := 66) ?hr ?_; (case hd => rfl); (case hg => rfl); (case hr => first | (go_simp; done) | (go_simp; rfl)); intro gb889 hg w136 hbox hb; have n0_ := Aside0.mk (below_step (by repeat (first | (with_reducible first | exact HB.out | apply below_alloc | apply pw_below_drewN | apply below_drew1) | exact HB.out)) hb); have n1_ := Aside0.mk (hbox); have n2_ := Aside0.mk ((by rw [hg]; exact (below_size (by repeat (first | (with_reducible first | exact HB.out | apply below_alloc | apply pw_below_drewN | apply below_drew1) | exact HB.out))) : w.heap.size ≤ gb889)); have n3_ := Aside0.mk ((by rw [hg]; exact (below_size (by repeat (first | (with_reducible first | exact HB.out | apply below_alloc | apply pw_below_drewN | apply below_drew1) | exact HB.out))) : w.heap.size ≤ gb889)); clear HB; have HB := n0_; have BK889 := n1_; have GW889 := n2_; have GE889 := n3_; clear n0_ n1_ n2_ n3_; clear hb hbox hg; have hcz137_0 : w136.cell? ⟨gb889, 0, none⟩ = some (.int .i64 a0_0) := (blk_cell BK889.out 0).trans rfl; have hcz137_1 : w136.cell? ⟨gb889, 1, none⟩ = some (.int .i64 a0_1) := (blk_cell BK889.out 1).trans rfl; have hcz137_2 : w136.cell? ⟨gb889, 2, none⟩ = some (.int .i64 a0_2) := (blk_cell BK889.out 2).trans rfl; have hcz137_3 : w136.cell? ⟨gb889, 3, none⟩ = some (.int .i64 a0_3) := (blk_cell BK889.out 3).trans rfl; have hcz137_4 : w136.cell? ⟨gb889, 4, none⟩ = some (.int .i64 a0_4) := (blk_cell BK889.out 4).trans rfl; have hcz137_5 : w136.cell? ⟨gb889, 5, none⟩ = some (.int .i64 a0_5) := (blk_cell BK889.out 5).trans rfl; have hcz137_6 : w136.cell? ⟨gb889, 6, none⟩ = some (.int .i64 a0_6) := (blk_cell BK889.out 6).trans rfl; have hcz137_7 : w136.cell? ⟨gb889, 7, none⟩ = some (.int .i64 a0_7) := (blk_cell BK889.out 7).trans rfl; have hcz137_8 : w136.cell? ⟨gb889, 8, none⟩ = some (.int .i64 a0_8) := (blk_cell BK889.out 8).trans rfl; have hcz137_9 : w136.cell? ⟨gb889, 9, none⟩ = some (.slice A0_9 l0_9.length c0_9) := (blk_cell BK889.out 9).trans rfl; have hfz137_0 := blk_frozen BK889.out 0; have hfz137_1 := blk_frozen BK889.out 1; have hfz137_2 := blk_frozen BK889.out 2; have hfz137_3 := blk_frozen BK889.out 3; have hfz137_4 := blk_frozen BK889.out 4; have hfz137_5 := blk_frozen BK889.out 5; have hfz137_6 := blk_frozen BK889.out 6; have hfz137_7 := blk_frozen BK889.out 7; have hfz137_8 := blk_frozen BK889.out 8; have hfz137_9 := blk_frozen BK889.out 9) | (go_at_call 53; (with_reducible refine (tenorlaw8_small.calls k a0_0 a0_1 a0_2 a0_3 a0_4 a0_5 a0_6 a0_7 a0_8 _ _ l0_9 true _ ?side1 ?side2 A2.out).mono ?_); (case side1 => repeat (first | exact (Kd.C_below HR0_9.out HB.out) | (with_reducible refine Kd.C_alloc ?_ _) | (with_reducible refine Kd.C_drewN ?_ _) | (with_reducible refine Kd.C_drew ?_))); (case side2 => exact HC0_9.out); rintro e w138 ⟨rfl, hb⟩; have n0_ := Aside0.mk (blk_below (g := gb889) (o := .cells #[.int .i64 a0_0, .int .i64 a0_1, .int .i64 a0_2, .int .i64 a0_3, .int .i64 a0_4, .int .i64 a0_5, .int .i64 a0_6, .int .i64 a0_7, .int .i64 a0_8, .slice A0_9 l0_9.length c0_9] 66 (0, 0)) (by (with_reducible repeat (first | refine blk_drewN ?_ _ | refine blk_drew ?_ | refine blk_alloc ?_ _)); exact BK889.out) hb); have n1_ := Aside0.mk (below_step (by repeat (first | (with_reducible first | exact HB.out | apply below_alloc | apply pw_below_drewN | apply below_drew1 | refine below_set ?_ GE889.out) | exact HB.out)) hb); clear BK889; clear HB; have BK889 := n0_; have HB := n1_; clear n0_ n1_; (try clear hb); (try clear hb2); (try clear hk); (try clear hi); have hcz139_0 : w138.cell? ⟨gb889, 0, none⟩ = some (.int .i64 a0_0) := (blk_cell BK889.out 0).trans rfl; have hcz139_1 : w138.cell? ⟨gb889, 1, none⟩ = some (.int .i64 a0_1) := (blk_cell BK889.out 1).trans rfl; have hcz139_2 : w138.cell? ⟨gb889, 2, none⟩ = some (.int .i64 a0_2) := (blk_cell BK889.out 2).trans rfl; have hcz139_3 : w138.cell? ⟨gb889, 3, none⟩ = some (.int .i64 a0_3) := (blk_cell BK889.out 3).trans rfl; have hcz139_4 : w138.cell? ⟨gb889, 4, none⟩ = some (.int .i64 a0_4) := (blk_cell BK889.out 4).trans rfl; have hcz139_5 : w138.cell? ⟨gb889, 5, none⟩ = some (.int .i64 a0_5) := (blk_cell BK889.out 5).trans rfl; have hcz139_6 : w138.cell? ⟨gb889, 6, none⟩ = some (.int .i64 a0_6) := (blk_cell BK889.out 6).trans rfl; have hcz139_7 : w138.cell? ⟨gb889, 7, none⟩ = some (.int .i64 a0_7) := (blk_cell BK889.out 7).trans rfl; have hcz139_8 : w138.cell? ⟨gb889, 8, none⟩ = some (.int .i64 a0_8) := (blk_cell BK889.out 8).trans rfl; have hcz139_9 : w138.cell? ⟨gb889, 9, none⟩ = some (.slice A0_9 l0_9.length c0_9) := (blk_cell BK889.out 9).trans rfl; have hfz139_0 := blk_frozen BK889.out 0; have hfz139_1 := blk_frozen BK889.out 1; have hfz139_2 := blk_frozen BK889.out 2; have hfz139_3 := blk_frozen BK889.out 3; have hfz139_4 := blk_frozen BK889.out 4; have hfz139_5 := blk_frozen BK889.out 5; have hfz139_6 := blk_frozen BK889.out 6; have hfz139_7 := blk_frozen BK889.out 7; have hfz139_8 := blk_frozen BK889.out 8; have hfz139_9 := blk_frozen BK889.out 9) | (go_at_call 50; (with_reducible refine (sched_Dates.calls k a0_0 a0_1 a0_2 a0_3 a0_4 a0_5 a0_6 a0_7 a0_8 _ _ l0_9 t892 t895 _ ?side1 ?side2 A4.out).mono ?_); (case side1 => repeat (first | exact (Kd.C_below HR0_9.out HB.out) | (with_reducible refine Kd.C_alloc ?_ _) | (with_reducible refine Kd.C_drewN ?_ _) | (with_reducible refine Kd.C_drew ?_))); (case side2 => exact HC0_9.out); rintro e w140 ⟨v893, rfl, ho0, hb⟩; have n0_ := Aside0.mk (Kd.R_lower ho0 (below_size (by repeat (first | (with_reducible first | exact HB.out | apply below_alloc | apply pw_below_drewN | apply below_drew1 | refine below_set ?_ GE889.out) | exact HB.out)))); have n1_ := Aside0.mk (blk_below (g := gb889) (o := .cells #[.int .i64 a0_0, .int .i64 a0_1, .int .i64 a0_2, .int .i64 a0_3, .int .i64 a0_4, .int .i64 a0_5, .int .i64 a0_6, .int .i64 a0_7, .int .i64 a0_8, .slice A0_9 l0_9.length c0_9] 66 (0, 0)) (by (with_reducible repeat (first | refine blk_drewN ?_ _ | refine blk_drew ?_ | refine blk_alloc ?_ _)); exact BK889.out) hb); have n2_ := Aside0.mk (below_step (by repeat (first | (with_reducible first | exact HB.out | apply below_alloc | apply pw_below_drewN | apply below_drew1 | refine below_set ?_ GE889.out) | exact HB.out)) hb); clear BK889; clear HB; have HO894 := n0_; have BK889 := n1_; have HB := n2_; clear n0_ n1_ n2_; (try clear hb); (try clear hb2); (try clear hk); (try clear hi); (try clear ho0); obtain ⟨Ao141, co141, eo141⟩ := Kd.R_slice HO894.out; subst eo141) | (go_at_call 49; (with_reducible refine (tenorlaw8_awake.calls k  t896 _ A135.out).mono ?_); rintro e w142 ⟨rfl, hb⟩; have n0_ := Aside0.mk (Kd.R_below (by (with_reducible repeat (first | apply Kd.R_alloc | apply Kd.R_drewN | apply Kd.R_drew)); exact HO894.out) hb); have n1_ := Aside0.mk (blk_below (g := gb889) (o := .cells #[.int .i64 a0_0, .int .i64 a0_1, .int .i64 a0_2, .int .i64 a0_3, .int .i64 a0_4, .int .i64 a0_5, .int .i64 a0_6, .int .i64 a0_7, .int .i64 a0_8, .slice A0_9 l0_9.length c0_9] 66 (0, 0)) (by (with_reducible repeat (first | refine blk_drewN ?_ _ | refine blk_drew ?_ | refine blk_alloc ?_ _)); exact BK889.out) hb); have n2_ := Aside0.mk (below_step (by repeat (first | (with_reducible first | exact HB.out | apply below_alloc | apply pw_below_drewN | apply below_drew1 | refine below_set ?_ GE889.out) | exact HB.out)) hb); clear HO894; clear BK889; clear HB; have HO894 := n0_; have BK889 := n1_; have HB := n2_; clear n0_ n1_ n2_; (try clear hb); (try clear hb2); (try clear hk); (try clear hi))))
    go_ret
    exact ⟨by first | rfl | (simp [errW_none, errW_some] <;> rfl) | (simp [*, errW_none, errW_some] <;> rfl), by repeat (first | (with_reducible first | exact HB.out | apply below_alloc | apply pw_below_drewN | apply below_drew1 | refine below_set ?_ GE889.out) | exact HB.out)⟩
   ·
    rw [if_neg c134] at H
    have c134b0 : ((t892.length : Int) == 0) = false := beq_eq_false_iff_ne.mpr c134
    have c134b1 : ((t892.length : Int) != 0) = true := bne_iff_ne.mpr c134
    have c134b2 : ¬ (t892 = []) := fun h_ => c134 (by rw [h_]; rfl)
    exact absurd (H.trans (congrArg some HT)) (by decide)
 ·
  replace c3 := Bool.eq_false_iff.mpr c3;subst c3
  have H1 : ((tenorlaw8_awake.f k).bind fun t891 => (some t891)) = some r := by rw [if_neg (show ¬ (false = true) by decide)] at H; exact H
  clear H;have H := H1;clear H1;replace H := Option.bind_eq_some_iff.mp H
  obtain ⟨t891, A1490, H⟩ := H
  replace H : (some t891) = some r := H
  have A149 := Aside0.mk A1490;clear A1490
  obtain rfl := Option.some.inj H
  go_enter Try.func19, Try.ntmps19
  go_wp2_with (first | ((with_reducible refine gate_dst (N := 1) rfl ?_); (try (refine gate_guard (by rfl) ?_; dsimp only)); refine box_event ?hg (N := 1) ?hd (cs := #[.int .i64 a0_0, .int .i64 a0_1, .int .i64 a0_2, .int .i64 a0_3, .int .i64 a0_4, .int .i64 a0_5, .int .i64 a0_6, .int .i64 a0_7, .int .i64 a0_8, .slice A0_9 l0_9.length c0_9]) (t := 66) ?hr ?_; (case hd => rfl); (case hg => rfl); (case hr => first | (go_simp; done) | (go_simp; rfl)); intro gb889 hg w150 hbox hb; have n0_ := Aside0.mk (below_step (by repeat (first | (with_reducible first | exact HB.out | apply below_alloc | apply pw_below_drewN | apply below_drew1) | exact HB.out)) hb); have n1_ := Aside0.mk (hbox); have n2_ := Aside0.mk ((by rw [hg]; exact (below_size (by repeat (first | (with_reducible first | exact HB.out | apply below_alloc | apply pw_below_drewN | apply below_drew1) | exact HB.out))) : w.heap.size ≤ gb889)); have n3_ := Aside0.mk ((by rw [hg]; exact (below_size (by repeat (first | (with_reducible first | exact HB.out | apply below_alloc | apply pw_below_drewN | apply below_drew1) | exact HB.out))) : w.heap.size ≤ gb889)); clear HB; have HB := n0_; have BK889 := n1_; have GW889 := n2_; have GE889 := n3_; clear n0_ n1_ n2_ n3_; clear hb hbox hg; have hcz151_0 : w150.cell? ⟨gb889, 0, none⟩ = some (.int .i64 a0_0) := (blk_cell BK889.out 0).trans rfl; have hcz151_1 : w150.cell? ⟨gb889, 1, none⟩ = some (.int .i64 a0_1) := (blk_cell BK889.out 1).trans rfl; have hcz151_2 : w150.cell? ⟨gb889, 2, none⟩ = some (.int .i64 a0_2) := (blk_cell BK889.out 2).trans rfl; have hcz151_3 : w150.cell? ⟨gb889, 3, none⟩ = some (.int .i64 a0_3) := (blk_cell BK889.out 3).trans rfl; have hcz151_4 : w150.cell? ⟨gb889, 4, none⟩ = some (.int .i64 a0_4) := (blk_cell BK889.out 4).trans rfl; have hcz151_5 : w150.cell? ⟨gb889, 5, none⟩ = some (.int .i64 a0_5) := (blk_cell BK889.out 5).trans rfl; have hcz151_6 : w150.cell? ⟨gb889, 6, none⟩ = some (.int .i64 a0_6) := (blk_cell BK889.out 6).trans rfl; have hcz151_7 : w150.cell? ⟨gb889, 7, none⟩ = some (.int .i64 a0_7) := (blk_cell BK889.out 7).trans rfl; have hcz151_8 : w150.cell? ⟨gb889, 8, none⟩ = some (.int .i64 a0_8) := (blk_cell BK889.out 8).trans rfl; have hcz151_9 : w150.cell? ⟨gb889, 9, none⟩ = some (.slice A0_9 l0_9.length c0_9) := (blk_cell BK889.out 9).trans rfl; have hfz151_0 := blk_frozen BK889.out 0; have hfz151_1 := blk_frozen BK889.out 1; have hfz151_2 := blk_frozen BK889.out 2; have hfz151_3 := blk_frozen BK889.out 3; have hfz151_4 := blk_frozen BK889.out 4; have hfz151_5 := blk_frozen BK889.out 5; have hfz151_6 := blk_frozen BK889.out 6; have hfz151_7 := blk_frozen BK889.out 7; have hfz151_8 := blk_frozen BK889.out 8; have hfz151_9 := blk_frozen BK889.out 9) | (go_at_call 53; (with_reducible refine (tenorlaw8_small.calls k a0_0 a0_1 a0_2 a0_3 a0_4 a0_5 a0_6 a0_7 a0_8 _ _ l0_9 false _ ?side1 ?side2 A2.out).mono ?_); (case side1 => repeat (first | exact (Kd.C_below HR0_9.out HB.out) | (with_reducible refine Kd.C_alloc ?_ _) | (with_reducible refine Kd.C_drewN ?_ _) | (with_reducible refine Kd.C_drew ?_))); (case side2 => exact HC0_9.out); rintro e w152 ⟨rfl, hb⟩; have n0_ := Aside0.mk (blk_below (g := gb889) (o := .cells #[.int .i64 a0_0, .int .i64 a0_1, .int .i64 a0_2, .int .i64 a0_3, .int .i64 a0_4, .int .i64 a0_5, .int .i64 a0_6, .int .i64 a0_7, .int .i64 a0_8, .slice A0_9 l0_9.length c0_9] 66 (0, 0)) (by (with_reducible repeat (first | refine blk_drewN ?_ _ | refine blk_drew ?_ | refine blk_alloc ?_ _)); exact BK889.out) hb); have n1_ := Aside0.mk (below_step (by repeat (first | (with_reducible first | exact HB.out | apply below_alloc | apply pw_below_drewN | apply below_drew1 | refine below_set ?_ GE889.out) | exact HB.out)) hb); clear BK889; clear HB; have BK889 := n0_; have HB := n1_; clear n0_ n1_; (try clear hb); (try clear hb2); (try clear hk); (try clear hi)) | (go_at_call 49; (with_reducible refine (tenorlaw8_awake.calls k  t891 _ A149.out).mono ?_); rintro e w153 ⟨rfl, hb⟩; have n0_ := Aside0.mk (blk_below (g := gb889) (o := .cells #[.int .i64 a0_0, .int .i64 a0_1, .int .i64 a0_2, .int .i64 a0_3, .int .i64 a0_4, .int .i64 a0_5, .int .i64 a0_6, .int .i64 a0_7, .int .i64 a0_8, .slice A0_9 l0_9.length c0_9] 66 (0, 0)) (by (with_reducible repeat (first | refine blk_drewN ?_ _ | refine blk_drew ?_ | refine blk_alloc ?_ _)); exact BK889.out) hb); have n1_ := Aside0.mk (below_step (by repeat (first | (with_reducible first | exact HB.out | apply below_alloc | apply pw_below_drewN | apply below_drew1 | refine below_set ?_ GE889.out) | exact HB.out)) hb); clear BK889; clear HB; have BK889 := n0_; have HB := n1_; clear n0_ n1_; (try clear hb); (try clear hb2); (try clear hk); (try clear hi)))
  repeat (go_quiet (first | ((with_reducible refine gate_dst (N := 1) rfl ?_); (try (refine gate_guard (by rfl) ?_; dsimp only)); refine box_event ?hg (N := 1) ?hd (cs := #[.int .i64 a0_0, .int .i64 a0_1, .int .i64 a0_2, .int .i64 a0_3, .int .i64 a0_4, .int .i64 a0_5, .int .i64 a0_6, .int .i64 a0_7, .int .i64 a0_8, .slice A0_9 l0_9.length c0_9]) (t := 66) ?hr ?_; (case hd => rfl); (case hg => rfl); (case hr => first | (go_simp; done) | (go_simp; rfl)); intro gb889 hg w150 hbox hb; have n0_ := Aside0.mk (below_step (by repeat (first | (with_reducible first | exact HB.out | apply below_alloc | apply pw_below_drewN | apply below_drew1) | exact HB.out)) hb); have n1_ := Aside0.mk (hbox); have n2_ := Aside0.mk ((by rw [hg]; exact (below_size (by repeat (first | (with_reducible first | exact HB.out | apply below_alloc | apply pw_below_drewN | apply below_drew1) | exact HB.out))) : w.heap.size ≤ gb889)); have n3_ := Aside0.mk ((by rw [hg]; exact (below_size (by repeat (first | (with_reducible first | exact HB.out | apply below_alloc | apply pw_below_drewN | apply below_drew1) | exact HB.out))) : w.heap.size ≤ gb889)); clear HB; have HB := n0_; have BK889 := n1_; have GW889 := n2_; have GE889 := n3_; clear n0_ n1_ n2_ n3_; clear hb hbox hg; have hcz151_0 : w150.cell? ⟨gb889, 0, none⟩ = some (.int .i64 a0_0) := (blk_cell BK889.out 0).trans rfl; have hcz151_1 : w150.cell? ⟨gb889, 1, none⟩ = some (.int .i64 a0_1) := (blk_cell BK889.out 1).trans rfl; have hcz151_2 : w150.cell? ⟨gb889, 2, none⟩ = some (.int .i64 a0_2) := (blk_cell BK889.out 2).trans rfl; have hcz151_3 : w150.cell? ⟨gb889, 3, none⟩ = some (.int .i64 a0_3) := (blk_cell BK889.out 3).trans rfl; have hcz151_4 : w150.cell? ⟨gb889, 4, none⟩ = some (.int .i64 a0_4) := (blk_cell BK889.out 4).trans rfl; have hcz151_5 : w150.cell? ⟨gb889, 5, none⟩ = some (.int .i64 a0_5) := (blk_cell BK889.out 5).trans rfl; have hcz151_6 : w150.cell? ⟨gb889, 6, none⟩ = some (.int .i64 a0_6) := (blk_cell BK889.out 6).trans rfl; have hcz151_7 : w150.cell? ⟨gb889, 7, none⟩ = some (.int .i64 a0_7) := (blk_cell BK889.out 7).trans rfl; have hcz151_8 : w150.cell? ⟨gb889, 8, none⟩ = some (.int .i64 a0_8) := (blk_cell BK889.out 8).trans rfl; have hcz151_9 : w150.cell? ⟨gb889, 9, none⟩ = some (.slice A0_9 l0_9.length c0_9) := (blk_cell BK889.out 9).trans rfl; have hfz151_0 := blk_frozen BK889.out 0; have hfz151_1 := blk_frozen BK889.out 1; have hfz151_2 := blk_frozen BK889.out 2; have hfz151_3 := blk_frozen BK889.out 3; have hfz151_4 := blk_frozen BK889.out 4; have hfz151_5 := blk_frozen BK889.out 5; have hfz151_6 := blk_frozen BK889.out 6; have hfz151_7 := blk_frozen BK889.out 7; have hfz151_8 := blk_frozen BK889.out 8; have hfz151_9 := blk_frozen BK889.out 9) | (go_at_call 53; (with_reducible refine (tenorlaw8_small.calls k a0_0 a0_1 a0_2 a0_3 a0_4 a0_5 a0_6 a0_7 a0_8 _ _ l0_9 false _ ?side1 ?side2 A2.out).mono ?_); (case side1 => repeat (first | exact (Kd.C_below HR0_9.out HB.out) | (with_reducible refine Kd.C_alloc ?_ _) | (with_reducible refine Kd.C_drewN ?_ _) | (with_reducible refine Kd.C_drew ?_))); (case side2 => exact HC0_9.out); rintro e w152 ⟨rfl, hb⟩; have n0_ := Aside0.mk (blk_below (g := gb889) (o := .cells #[.int .i64 a0_0, .int .i64 a0_1, .int .i64 a0_2, .int .i64 a0_3, .int .i64 a0_4, .int .i64 a0_5, .int .i64 a0_6, .int .i64 a0_7, .int .i64 a0_8, .slice A0_9 l0_9.length c0_9] 66 (0, 0)) (by (with_reducible repeat (first | refine blk_drewN ?_ _ | refine blk_drew ?_ | refine blk_alloc ?_ _)); exact BK889.out) hb); have n1_ := Aside0.mk (below_step (by repeat (first | (with_reducible first | exact HB.out | apply below_alloc | apply pw_below_drewN | apply below_drew1 | refine below_set ?_ GE889.out) | exact HB.out)) hb); clear BK889; clear HB; have BK889 := n0_; have HB := n1_; clear n0_ n1_; (try clear hb); (try clear hb2); (try clear hk); (try clear hi)) | (go_at_call 49; (with_reducible refine (tenorlaw8_awake.calls k  t891 _ A149.out).mono ?_); rintro e w153 ⟨rfl, hb⟩; have n0_ := Aside0.mk (blk_below (g := gb889) (o := .cells #[.int .i64 a0_0, .int .i64 a0_1, .int .i64 a0_2, .int .i64 a0_3, .int .i64 a0_4, .int .i64 a0_5, .int .i64 a0_6, .int .i64 a0_7, .int .i64 a0_8, .slice A0_9 l0_9.length c0_9] 66 (0, 0)) (by (with_reducible repeat (first | refine blk_drewN ?_ _ | refine blk_drew ?_ | refine blk_alloc ?_ _)); exact BK889.out) hb); have n1_ := Aside0.mk (below_step (by repeat (first | (with_reducible first | exact HB.out | apply below_alloc | apply pw_below_drewN | apply below_drew1 | refine below_set ?_ GE889.out) | exact HB.out)) hb); clear BK889; clear HB; have BK889 := n0_; have HB := n1_; clear n0_ n1_; (try clear hb); (try clear hb2); (try clear hk); (try clear hi))); try go_wp2_with (first | ((with_reducible refine gate_dst (N := 1) rfl ?_); (try (refine gate_guard (by rfl) ?_; dsimp only)); refine box_event ?hg (N := 1) ?hd (cs := #[.int .i64 a0_0, .int .i64 a0_1, .int .i64 a0_2, .int .i64 a0_3, .int .i64 a0_4, .int .i64 a0_5, .int .i64 a0_6, .int .i64 a0_7, .int .i64 a0_8, .slice A0_9 l0_9.length c0_9]) (t := 66) ?hr ?_; (case hd => rfl); (case hg => rfl); (case hr => first | (go_simp; done) | (go_simp; rfl)); intro gb889 hg w150 hbox hb; have n0_ := Aside0.mk (below_step (by repeat (first | (with_reducible first | exact HB.out | apply below_alloc | apply pw_below_drewN | apply below_drew1) | exact HB.out)) hb); have n1_ := Aside0.mk (hbox); have n2_ := Aside0.mk ((by rw [hg]; exact (below_size (by repeat (first | (with_reducible first | exact HB.out | apply below_alloc | apply pw_below_drewN | apply below_drew1) | exact HB.out))) : w.heap.size ≤ gb889)); have n3_ := Aside0.mk ((by rw [hg]; exact (below_size (by repeat (first | (with_reducible first | exact HB.out | apply below_alloc | apply pw_below_drewN | apply below_drew1) | exact HB.out))) : w.heap.size ≤ gb889)); clear HB; have HB := n0_; have BK889 := n1_; have GW889 := n2_; have GE889 := n3_; clear n0_ n1_ n2_ n3_; clear hb hbox hg; have hcz151_0 : w150.cell? ⟨gb889, 0, none⟩ = some (.int .i64 a0_0) := (blk_cell BK889.out 0).trans rfl; have hcz151_1 : w150.cell? ⟨gb889, 1, none⟩ = some (.int .i64 a0_1) := (blk_cell BK889.out 1).trans rfl; have hcz151_2 : w150.cell? ⟨gb889, 2, none⟩ = some (.int .i64 a0_2) := (blk_cell BK889.out 2).trans rfl; have hcz151_3 : w150.cell? ⟨gb889, 3, none⟩ = some (.int .i64 a0_3) := (blk_cell BK889.out 3).trans rfl; have hcz151_4 : w150.cell? ⟨gb889, 4, none⟩ = some (.int .i64 a0_4) := (blk_cell BK889.out 4).trans rfl; have hcz151_5 : w150.cell? ⟨gb889, 5, none⟩ = some (.int .i64 a0_5) := (blk_cell BK889.out 5).trans rfl; have hcz151_6 : w150.cell? ⟨gb889, 6, none⟩ = some (.int .i64 a0_6) := (blk_cell BK889.out 6).trans rfl; have hcz151_7 : w150.cell? ⟨gb889, 7, none⟩ = some (.int .i64 a0_7) := (blk_cell BK889.out 7).trans rfl; have hcz151_8 : w150.cell? ⟨gb889, 8, none⟩ = some (.int .i64 a0_8) := (blk_cell BK889.out 8).trans rfl; have hcz151_9 : w150.cell? ⟨gb889, 9, none⟩ = some (.slice A0_9 l0_9.length c0_9) := (blk_cell BK889.out 9).trans rfl; have hfz151_0 := blk_frozen BK889.out 0; have hfz151_1 := blk_frozen BK889.out 1; have hfz151_2 := blk_frozen BK889.out 2; have hfz151_3 := blk_frozen BK889.out 3; have hfz151_4 := blk_frozen BK889.out 4; have hfz151_5 := blk_frozen BK889.out 5; have hfz151_6 := blk_frozen BK889.out 6; have hfz151_7 := blk_frozen BK889.out 7; have hfz151_8 := blk_frozen BK889.out 8; have hfz151_9 := blk_frozen BK889.out 9) | (go_at_call 53; (with_reducible refine (tenorlaw8_small.calls k a0_0 a0_1 a0_2 a0_3 a0_4 a0_5 a0_6 a0_7 a0_8 _ _ l0_9 false _ ?side1 ?side2 A2.out).mono ?_); (case side1 => repeat (first | exact (Kd.C_below HR0_9.out HB.out) | (with_reducible refine Kd.C_alloc ?_ _) | (with_reducible refine Kd.C_drewN ?_ _) | (with_reducible refine Kd.C_drew ?_))); (case side2 => exact HC0_9.out); rintro e w152 ⟨rfl, hb⟩; have n0_ := Aside0.mk (blk_below (g := gb889) (o := .cells #[.int .i64 a0_0, .int .i64 a0_1, .int .i64 a0_2, .int .i64 a0_3, .int .i64 a0_4, .int .i64 a0_5, .int .i64 a0_6, .int .i64 a0_7, .int .i64 a0_8, .slice A0_9 l0_9.length c0_9] 66 (0, 0)) (by (with_reducible repeat (first | refine blk_drewN ?_ _ | refine blk_drew ?_ | refine blk_alloc ?_ _)); exact BK889.out) hb); have n1_ := Aside0.mk (below_step (by repeat (first | (with_reducible first | exact HB.out | apply below_alloc | apply pw_below_drewN | apply below_drew1 | refine below_set ?_ GE889.out) | exact HB.out)) hb); clear BK889; clear HB; have BK889 := n0_; have HB := n1_; clear n0_ n1_; (try clear hb); (try clear hb2); (try clear hk); (try clear hi)) | (go_at_call 49; (with_reducible refine (tenorlaw8_awake.calls k  t891 _ A149.out).mono ?_); rintro e w153 ⟨rfl, hb⟩; have n0_ := Aside0.mk (blk_below (g := gb889) (o := .cells #[.int .i64 a0_0, .int .i64 a0_1, .int .i64 a0_2, .int .i64 a0_3, .int .i64 a0_4, .int .i64 a0_5, .int .i64 a0_6, .int .i64 a0_7, .int .i64 a0_8, .slice A0_9 l0_9.length c0_9] 66 (0, 0)) (by (with_reducible repeat (first | refine blk_drewN ?_ _ | refine blk_drew ?_ | refine blk_alloc ?_ _)); exact BK889.out) hb); have n1_ := Aside0.mk (below_step (by repeat (first | (with_reducible first | exact HB.out | apply below_alloc | apply pw_below_drewN | apply below_drew1 | refine below_set ?_ GE889.out) | exact HB.out)) hb); clear BK889; clear HB; have BK889 := n0_; have HB := n1_; clear n0_ n1_; (try clear hb); (try clear hb2); (try clear hk); (try clear hi))))
  go_ret
  exact ⟨by first | rfl | (simp [errW_none, errW_some] <;> rfl) | (simp [*, errW_none, errW_some] <;> rfl), by repeat (first | (with_reducible first | exact HB.out | apply below_alloc | apply pw_below_drewN | apply below_drew1 | refine below_set ?_ GE889.out) | exact HB.out)⟩
end Go.Proofs.Ytoncignjcgjhhaa.Q
