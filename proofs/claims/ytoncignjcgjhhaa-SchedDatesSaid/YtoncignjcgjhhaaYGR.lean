/- Contracts and facts of functions of the program (calendar, dates and their documents), joined in one text by a program of this session. No condition but what each theorem states. -/
import Derived.Test.YtoncignjcgjhhaaYGA
import Derived.Test.YtoncignjcgjhhaaYGO
import Derived.Test.YtoncignjcgjhhaaYGP
set_option linter.unusedVariables false
set_option linter.unusedSimpArgs false
namespace Go.Proofs.Ytoncignjcgjhhaa.Q
open Go.RowKit Go.Proofs.YtoncignjcgjhhaaW.PrintWords Go.Proofs.YtoncignjcgjhhaaW.PrintLast Go.Proofs.YtoncignjcgjhhaaW.PrintMore
attribute [local go_sem] max2_int min2_int max_two min_two max_three min_three max_four min_four   -- for this text's walks alone
mutual
def tenorref8_Dates.j0 : Nat → Bool → Int → Int → Int → Int → Int → Int → Int → Int → Int → Int → Int → Int → List (S63) → Option (List Int × Int)
  | 0, _, _, _, _, _, _, _, _, _, _, _, _, _, _ => none
  | k + 1, x5, x6, x7, x8, x818000, x818001, x818002, x818003, x818004, x818005, x818006, x818007, x818008, x818009 => tenorref8_Dates.l0 k x5 x6 x7 x8 ([] : List Int) 1 x818000 x818001 x818002 x818003 x818004 x818005 x818006 x818007 x818008 x818009
def tenorref8_Dates.j3 : Nat → Bool → List Int → Bool → Int → Int → Int → Int → Int → Int → Int → Int → Int → List (S63) → Option (List Int × Int)
  | 0, _, _, _, _, _, _, _, _, _, _, _, _, _ => none
  | k + 1, x5, x9, x10, x818000, x818001, x818002, x818003, x818004, x818005, x818006, x818007, x818008, x818009 => if x818004 = 2 then (if x10 = true then (tenorref8_Dates.j4 k x5 x9 false x818000 x818001 x818002 x818003 x818004 x818005 x818006 x818007 x818008 x818009) else (tenorref8_Dates.j4 k x5 x9 (decide ((x9.length : Int) > 0)) x818000 x818001 x818002 x818003 x818004 x818005 x818006 x818007 x818008 x818009)) else (if x818004 = 4 then (if x10 = true then (tenorref8_Dates.j4 k x5 x9 false x818000 x818001 x818002 x818003 x818004 x818005 x818006 x818007 x818008 x818009) else (tenorref8_Dates.j4 k x5 x9 (decide ((x9.length : Int) > 0)) x818000 x818001 x818002 x818003 x818004 x818005 x818006 x818007 x818008 x818009)) else (tenorref8_Dates.j4 k x5 x9 false x818000 x818001 x818002 x818003 x818004 x818005 x818006 x818007 x818008 x818009))
def tenorref8_Dates.j4 : Nat → Bool → List Int → Bool → Int → Int → Int → Int → Int → Int → Int → Int → Int → List (S63) → Option (List Int × Int)
  | 0, _, _, _, _, _, _, _, _, _, _, _, _, _ => none
  | k + 1, x5, x9, x93, x818000, x818001, x818002, x818003, x818004, x818005, x818006, x818007, x818008, x818009 => if x93 = true then (if 0 ≤ (wrap64 ((x9.length : Int) - 1)) then (if (wrap64 ((x9.length : Int) - 1)) ≤ (x9.length : Int) then (tenorref8_Dates.j5 k x5 (x9.take ((wrap64 ((x9.length : Int) - 1)) : Int).toNat) x818000 x818001 x818002 x818003 x818004 x818005 x818006 x818007 x818008 x818009) else (none)) else (none)) else (tenorref8_Dates.j5 k x5 x9 x818000 x818001 x818002 x818003 x818004 x818005 x818006 x818007 x818008 x818009)
def tenorref8_Dates.j5 : Nat → Bool → List Int → Int → Int → Int → Int → Int → Int → Int → Int → Int → List (S63) → Option (List Int × Int)
  | 0, _, _, _, _, _, _, _, _, _, _, _, _ => none
  | k + 1, x5, x9, x818000, x818001, x818002, x818003, x818004, x818005, x818006, x818007, x818008, x818009 => tenorref8_Dates.l1 k x5 x9 (([x818000] : List Int)) 0 x818000 x818001 x818002 x818003 x818004 x818005 x818006 x818007 x818008 x818009
def tenorref8_Dates.l1 : Nat → Bool → List Int → List Int → Int → Int → Int → Int → Int → Int → Int → Int → Int → Int → List (S63) → Option (List Int × Int)
  | 0, _, _, _, _, _, _, _, _, _, _, _, _, _, _ => none
  | k + 1, x5, x9, x14, x15, x818000, x818001, x818002, x818003, x818004, x818005, x818006, x818007, x818008, x818009 => if x15 < (x9.length : Int) then (if x5 = true then (if 0 ≤ (wrap64 ((wrap64 ((x9.length : Int) - 1)) - x15)) then (if (wrap64 ((wrap64 ((x9.length : Int) - 1)) - x15)) < (x9.length : Int) then (if x14.length < 17592186044416 then (tenorref8_Dates.l1 k x5 x9 (x14 ++ [rd x9 (wrap64 ((wrap64 ((x9.length : Int) - 1)) - x15))]) (wrap64 (x15 + 1)) x818000 x818001 x818002 x818003 x818004 x818005 x818006 x818007 x818008 x818009) else (none)) else (none)) else (none)) else (if 0 ≤ x15 then (if x14.length < 17592186044416 then (tenorref8_Dates.l1 k x5 x9 (x14 ++ [rd x9 x15]) (wrap64 (x15 + 1)) x818000 x818001 x818002 x818003 x818004 x818005 x818006 x818007 x818008 x818009) else (none)) else (none))) else (if x14.length < 17592186044416 then (some ((x14 ++ [x818001]), 0)) else (none))
def tenorref8_Dates.l0 : Nat → Bool → Int → Int → Int → List Int → Int → Int → Int → Int → Int → Int → Int → Int → Int → Int → List (S63) → Option (List Int × Int)
  | 0, _, _, _, _, _, _, _, _, _, _, _, _, _, _, _, _ => none
  | k + 1, x5, x6, x7, x8, x9, x11, x818000, x818001, x818002, x818003, x818004, x818005, x818006, x818007, x818008, x818009 => (tenorref8_point.f k x818000 x818001 x818002 x818003 x818004 x818005 x818006 x818007 x818008 x818009 x6 (wrap64 (x11 * x8))).bind fun bt819 => (if bt819.2 = true then (if x5 = true then (if bt819.1 ≤ x7 then (tenorref8_Dates.j2 k x5 x6 x7 x8 x9 x11 bt819.1 bt819.2 true x818000 x818001 x818002 x818003 x818004 x818005 x818006 x818007 x818008 x818009) else (tenorref8_Dates.j2 k x5 x6 x7 x8 x9 x11 bt819.1 bt819.2 false x818000 x818001 x818002 x818003 x818004 x818005 x818006 x818007 x818008 x818009)) else (tenorref8_Dates.j2 k x5 x6 x7 x8 x9 x11 bt819.1 bt819.2 (decide (bt819.1 ≥ x7)) x818000 x818001 x818002 x818003 x818004 x818005 x818006 x818007 x818008 x818009)) else (tenorref8_Dates.j2 k x5 x6 x7 x8 x9 x11 bt819.1 bt819.2 true x818000 x818001 x818002 x818003 x818004 x818005 x818006 x818007 x818008 x818009))
def tenorref8_Dates.j2 : Nat → Bool → Int → Int → Int → List Int → Int → Int → Bool → Bool → Int → Int → Int → Int → Int → Int → Int → Int → Int → List (S63) → Option (List Int × Int)
  | 0, _, _, _, _, _, _, _, _, _, _, _, _, _, _, _, _, _, _, _ => none
  | k + 1, x5, x6, x7, x8, x9, x11, x12, x13, x62, x818000, x818001, x818002, x818003, x818004, x818005, x818006, x818007, x818008, x818009 => if x62 = true then (if x13 = true then (tenorref8_Dates.j3 k x5 x9 (x12 == x7) x818000 x818001 x818002 x818003 x818004 x818005 x818006 x818007 x818008 x818009) else (tenorref8_Dates.j3 k x5 x9 false x818000 x818001 x818002 x818003 x818004 x818005 x818006 x818007 x818008 x818009)) else (if x9.length < 17592186044416 then ((some (x9 ++ [x12] : List Int)).bind fun y821 => (if (wrap64 ((y821.length : Int) + 1)) > 1200 then (some (([] : List Int), 81)) else (tenorref8_Dates.l0 k x5 x6 x7 x8 y821 (wrap64 (x11 + 1)) x818000 x818001 x818002 x818003 x818004 x818005 x818006 x818007 x818008 x818009))) else (none))
end
def tenorref8_Dates.f (k : Nat) (a0_0 : Int) (a0_1 : Int) (a0_2 : Int) (a0_3 : Int) (a0_4 : Int) (a0_5 : Int) (a0_6 : Int) (a0_7 : Int) (a0_8 : Int) (l0_9 : List (S63)) : Option (List Int × Int) := (tenorref8_Check.f k a0_0 a0_1 a0_2 a0_3 a0_4 a0_5 a0_6 a0_7 a0_8 l0_9).bind fun t818 => (if t818 = 0 then (if a0_4 ≤ 2 then (tenorref8_Dates.j0 k (decide (a0_4 ≤ 2)) a0_1 a0_0 (-1) a0_0 a0_1 a0_2 a0_3 a0_4 a0_5 a0_6 a0_7 a0_8 l0_9) else (tenorref8_Dates.j0 k (decide (a0_4 ≤ 2)) a0_0 a0_1 1 a0_0 a0_1 a0_2 a0_3 a0_4 a0_5 a0_6 a0_7 a0_8 l0_9)) else (some (([] : List Int), t818)))
theorem tenorref8_Dates.mono_l : ∀ k, (∀ y0 y1 y2 y3 y4 y5 y6 y7 y8 y9 y10 y11 y12 y13, LeO (tenorref8_Dates.j0 k y0 y1 y2 y3 y4 y5 y6 y7 y8 y9 y10 y11 y12 y13) (tenorref8_Dates.j0 (k + 1) y0 y1 y2 y3 y4 y5 y6 y7 y8 y9 y10 y11 y12 y13)) ∧ (∀ y0 y1 y2 y3 y4 y5 y6 y7 y8 y9 y10 y11 y12, LeO (tenorref8_Dates.j3 k y0 y1 y2 y3 y4 y5 y6 y7 y8 y9 y10 y11 y12) (tenorref8_Dates.j3 (k + 1) y0 y1 y2 y3 y4 y5 y6 y7 y8 y9 y10 y11 y12)) ∧ (∀ y0 y1 y2 y3 y4 y5 y6 y7 y8 y9 y10 y11 y12, LeO (tenorref8_Dates.j4 k y0 y1 y2 y3 y4 y5 y6 y7 y8 y9 y10 y11 y12) (tenorref8_Dates.j4 (k + 1) y0 y1 y2 y3 y4 y5 y6 y7 y8 y9 y10 y11 y12)) ∧ (∀ y0 y1 y2 y3 y4 y5 y6 y7 y8 y9 y10 y11, LeO (tenorref8_Dates.j5 k y0 y1 y2 y3 y4 y5 y6 y7 y8 y9 y10 y11) (tenorref8_Dates.j5 (k + 1) y0 y1 y2 y3 y4 y5 y6 y7 y8 y9 y10 y11)) ∧ (∀ y0 y1 y2 y3 y4 y5 y6 y7 y8 y9 y10 y11 y12 y13, LeO (tenorref8_Dates.l1 k y0 y1 y2 y3 y4 y5 y6 y7 y8 y9 y10 y11 y12 y13) (tenorref8_Dates.l1 (k + 1) y0 y1 y2 y3 y4 y5 y6 y7 y8 y9 y10 y11 y12 y13)) ∧ (∀ y0 y1 y2 y3 y4 y5 y6 y7 y8 y9 y10 y11 y12 y13 y14 y15, LeO (tenorref8_Dates.l0 k y0 y1 y2 y3 y4 y5 y6 y7 y8 y9 y10 y11 y12 y13 y14 y15) (tenorref8_Dates.l0 (k + 1) y0 y1 y2 y3 y4 y5 y6 y7 y8 y9 y10 y11 y12 y13 y14 y15)) ∧ (∀ y0 y1 y2 y3 y4 y5 y6 y7 y8 y9 y10 y11 y12 y13 y14 y15 y16 y17 y18, LeO (tenorref8_Dates.j2 k y0 y1 y2 y3 y4 y5 y6 y7 y8 y9 y10 y11 y12 y13 y14 y15 y16 y17 y18) (tenorref8_Dates.j2 (k + 1) y0 y1 y2 y3 y4 y5 y6 y7 y8 y9 y10 y11 y12 y13 y14 y15 y16 y17 y18))
 | 0 => ⟨fun _ _ _ _ _ _ _ _ _ _ _ _ _ _ r h => by simp [tenorref8_Dates.j0] at h, fun _ _ _ _ _ _ _ _ _ _ _ _ _ r h => by simp [tenorref8_Dates.j3] at h, fun _ _ _ _ _ _ _ _ _ _ _ _ _ r h => by simp [tenorref8_Dates.j4] at h, fun _ _ _ _ _ _ _ _ _ _ _ _ r h => by simp [tenorref8_Dates.j5] at h, fun _ _ _ _ _ _ _ _ _ _ _ _ _ _ r h => by simp [tenorref8_Dates.l1] at h, fun _ _ _ _ _ _ _ _ _ _ _ _ _ _ _ _ r h => by simp [tenorref8_Dates.l0] at h, fun _ _ _ _ _ _ _ _ _ _ _ _ _ _ _ _ _ _ _ r h => by simp [tenorref8_Dates.j2] at h⟩
 | k + 1 => by
  obtain ⟨ih0, ih1, ih2, ih3, ih4, ih5, ih6⟩ := tenorref8_Dates.mono_l k
  refine ⟨?_, ?_, ?_, ?_, ?_, ?_, ?_⟩
  ·
   intro y0 y1 y2 y3 y4 y5 y6 y7 y8 y9 y10 y11 y12 y13
   unfold tenorref8_Dates.j0
   repeat' first
   | (with_reducible exact ih0 _ _ _ _ _ _ _ _ _ _ _ _ _ _)
   | (with_reducible exact ih1 _ _ _ _ _ _ _ _ _ _ _ _ _)
   | (with_reducible exact ih2 _ _ _ _ _ _ _ _ _ _ _ _ _)
   | (with_reducible exact ih3 _ _ _ _ _ _ _ _ _ _ _ _)
   | (with_reducible exact ih4 _ _ _ _ _ _ _ _ _ _ _ _ _ _)
   | (with_reducible exact ih5 _ _ _ _ _ _ _ _ _ _ _ _ _ _ _ _)
   | (with_reducible exact ih6 _ _ _ _ _ _ _ _ _ _ _ _ _ _ _ _ _ _ _)
   | (with_reducible exact tenorref8_Check.mono _ _ _ _ _ _ _ _ _ _ _)
   | (with_reducible exact tenorref8_point.mono _ _ _ _ _ _ _ _ _ _ _ _ _)
   | (with_reducible exact LeO.refl _)
   | (with_reducible exact LeO.none _)
   | (with_reducible refine LeO.ite ?_ ?_)
   | (with_reducible refine LeO.bind ?_ (fun _ => ?_))
   | exact ih0 _ _ _ _ _ _ _ _ _ _ _ _ _ _
   | exact ih1 _ _ _ _ _ _ _ _ _ _ _ _ _
   | exact ih2 _ _ _ _ _ _ _ _ _ _ _ _ _
   | exact ih3 _ _ _ _ _ _ _ _ _ _ _ _
   | exact ih4 _ _ _ _ _ _ _ _ _ _ _ _ _ _
   | exact ih5 _ _ _ _ _ _ _ _ _ _ _ _ _ _ _ _
   | exact ih6 _ _ _ _ _ _ _ _ _ _ _ _ _ _ _ _ _ _ _
   | exact tenorref8_Check.mono _ _ _ _ _ _ _ _ _ _ _
   | exact tenorref8_point.mono _ _ _ _ _ _ _ _ _ _ _ _ _
   | exact LeO.none _
   | refine LeO.ite ?_ ?_
   | refine LeO.bind ?_ (fun _ => ?_)
  ·
   intro y0 y1 y2 y3 y4 y5 y6 y7 y8 y9 y10 y11 y12
   unfold tenorref8_Dates.j3
   repeat' first
   | (with_reducible exact ih0 _ _ _ _ _ _ _ _ _ _ _ _ _ _)
   | (with_reducible exact ih1 _ _ _ _ _ _ _ _ _ _ _ _ _)
   | (with_reducible exact ih2 _ _ _ _ _ _ _ _ _ _ _ _ _)
   | (with_reducible exact ih3 _ _ _ _ _ _ _ _ _ _ _ _)
   | (with_reducible exact ih4 _ _ _ _ _ _ _ _ _ _ _ _ _ _)
   | (with_reducible exact ih5 _ _ _ _ _ _ _ _ _ _ _ _ _ _ _ _)
   | (with_reducible exact ih6 _ _ _ _ _ _ _ _ _ _ _ _ _ _ _ _ _ _ _)
   | (with_reducible exact tenorref8_Check.mono _ _ _ _ _ _ _ _ _ _ _)
   | (with_reducible exact tenorref8_point.mono _ _ _ _ _ _ _ _ _ _ _ _ _)
   | (with_reducible exact LeO.refl _)
   | (with_reducible exact LeO.none _)
   | (with_reducible refine LeO.ite ?_ ?_)
   | (with_reducible refine LeO.bind ?_ (fun _ => ?_))
   | exact ih0 _ _ _ _ _ _ _ _ _ _ _ _ _ _
   | exact ih1 _ _ _ _ _ _ _ _ _ _ _ _ _
   | exact ih2 _ _ _ _ _ _ _ _ _ _ _ _ _
   | exact ih3 _ _ _ _ _ _ _ _ _ _ _ _
   | exact ih4 _ _ _ _ _ _ _ _ _ _ _ _ _ _
   | exact ih5 _ _ _ _ _ _ _ _ _ _ _ _ _ _ _ _
   | exact ih6 _ _ _ _ _ _ _ _ _ _ _ _ _ _ _ _ _ _ _
   | exact tenorref8_Check.mono _ _ _ _ _ _ _ _ _ _ _
   | exact tenorref8_point.mono _ _ _ _ _ _ _ _ _ _ _ _ _
   | exact LeO.none _
   | refine LeO.ite ?_ ?_
   | refine LeO.bind ?_ (fun _ => ?_)
  ·
   intro y0 y1 y2 y3 y4 y5 y6 y7 y8 y9 y10 y11 y12
   unfold tenorref8_Dates.j4
   repeat' first
   | (with_reducible exact ih0 _ _ _ _ _ _ _ _ _ _ _ _ _ _)
   | (with_reducible exact ih1 _ _ _ _ _ _ _ _ _ _ _ _ _)
   | (with_reducible exact ih2 _ _ _ _ _ _ _ _ _ _ _ _ _)
   | (with_reducible exact ih3 _ _ _ _ _ _ _ _ _ _ _ _)
   | (with_reducible exact ih4 _ _ _ _ _ _ _ _ _ _ _ _ _ _)
   | (with_reducible exact ih5 _ _ _ _ _ _ _ _ _ _ _ _ _ _ _ _)
   | (with_reducible exact ih6 _ _ _ _ _ _ _ _ _ _ _ _ _ _ _ _ _ _ _)
   | (with_reducible exact tenorref8_Check.mono _ _ _ _ _ _ _ _ _ _ _)
   | (with_reducible exact tenorref8_point.mono _ _ _ _ _ _ _ _ _ _ _ _ _)
   | (with_reducible exact LeO.refl _)
   | (with_reducible exact LeO.none _)
   | (with_reducible refine LeO.ite ?_ ?_)
   | (with_reducible refine LeO.bind ?_ (fun _ => ?_))
   | exact ih0 _ _ _ _ _ _ _ _ _ _ _ _ _ _
   | exact ih1 _ _ _ _ _ _ _ _ _ _ _ _ _
   | exact ih2 _ _ _ _ _ _ _ _ _ _ _ _ _
   | exact ih3 _ _ _ _ _ _ _ _ _ _ _ _
   | exact ih4 _ _ _ _ _ _ _ _ _ _ _ _ _ _
   | exact ih5 _ _ _ _ _ _ _ _ _ _ _ _ _ _ _ _
   | exact ih6 _ _ _ _ _ _ _ _ _ _ _ _ _ _ _ _ _ _ _
   | exact tenorref8_Check.mono _ _ _ _ _ _ _ _ _ _ _
   | exact tenorref8_point.mono _ _ _ _ _ _ _ _ _ _ _ _ _
   | exact LeO.none _
   | refine LeO.ite ?_ ?_
   | refine LeO.bind ?_ (fun _ => ?_)
  ·
   intro y0 y1 y2 y3 y4 y5 y6 y7 y8 y9 y10 y11
   unfold tenorref8_Dates.j5
   repeat' first
   | (with_reducible exact ih0 _ _ _ _ _ _ _ _ _ _ _ _ _ _)
   | (with_reducible exact ih1 _ _ _ _ _ _ _ _ _ _ _ _ _)
   | (with_reducible exact ih2 _ _ _ _ _ _ _ _ _ _ _ _ _)
   | (with_reducible exact ih3 _ _ _ _ _ _ _ _ _ _ _ _)
   | (with_reducible exact ih4 _ _ _ _ _ _ _ _ _ _ _ _ _ _)
   | (with_reducible exact ih5 _ _ _ _ _ _ _ _ _ _ _ _ _ _ _ _)
   | (with_reducible exact ih6 _ _ _ _ _ _ _ _ _ _ _ _ _ _ _ _ _ _ _)
   | (with_reducible exact tenorref8_Check.mono _ _ _ _ _ _ _ _ _ _ _)
   | (with_reducible exact tenorref8_point.mono _ _ _ _ _ _ _ _ _ _ _ _ _)
   | (with_reducible exact LeO.refl _)
   | (with_reducible exact LeO.none _)
   | (with_reducible refine LeO.ite ?_ ?_)
   | (with_reducible refine LeO.bind ?_ (fun _ => ?_))
   | exact ih0 _ _ _ _ _ _ _ _ _ _ _ _ _ _
   | exact ih1 _ _ _ _ _ _ _ _ _ _ _ _ _
   | exact ih2 _ _ _ _ _ _ _ _ _ _ _ _ _
   | exact ih3 _ _ _ _ _ _ _ _ _ _ _ _
   | exact ih4 _ _ _ _ _ _ _ _ _ _ _ _ _ _
   | exact ih5 _ _ _ _ _ _ _ _ _ _ _ _ _ _ _ _
   | exact ih6 _ _ _ _ _ _ _ _ _ _ _ _ _ _ _ _ _ _ _
   | exact tenorref8_Check.mono _ _ _ _ _ _ _ _ _ _ _
   | exact tenorref8_point.mono _ _ _ _ _ _ _ _ _ _ _ _ _
   | exact LeO.none _
   | refine LeO.ite ?_ ?_
   | refine LeO.bind ?_ (fun _ => ?_)
  ·
   intro y0 y1 y2 y3 y4 y5 y6 y7 y8 y9 y10 y11 y12 y13
   unfold tenorref8_Dates.l1
   repeat' first
   | (with_reducible exact ih0 _ _ _ _ _ _ _ _ _ _ _ _ _ _)
   | (with_reducible exact ih1 _ _ _ _ _ _ _ _ _ _ _ _ _)
   | (with_reducible exact ih2 _ _ _ _ _ _ _ _ _ _ _ _ _)
   | (with_reducible exact ih3 _ _ _ _ _ _ _ _ _ _ _ _)
   | (with_reducible exact ih4 _ _ _ _ _ _ _ _ _ _ _ _ _ _)
   | (with_reducible exact ih5 _ _ _ _ _ _ _ _ _ _ _ _ _ _ _ _)
   | (with_reducible exact ih6 _ _ _ _ _ _ _ _ _ _ _ _ _ _ _ _ _ _ _)
   | (with_reducible exact tenorref8_Check.mono _ _ _ _ _ _ _ _ _ _ _)
   | (with_reducible exact tenorref8_point.mono _ _ _ _ _ _ _ _ _ _ _ _ _)
   | (with_reducible exact LeO.refl _)
   | (with_reducible exact LeO.none _)
   | (with_reducible refine LeO.ite ?_ ?_)
   | (with_reducible refine LeO.bind ?_ (fun _ => ?_))
   | exact ih0 _ _ _ _ _ _ _ _ _ _ _ _ _ _
   | exact ih1 _ _ _ _ _ _ _ _ _ _ _ _ _
   | exact ih2 _ _ _ _ _ _ _ _ _ _ _ _ _
   | exact ih3 _ _ _ _ _ _ _ _ _ _ _ _
   | exact ih4 _ _ _ _ _ _ _ _ _ _ _ _ _ _
   | exact ih5 _ _ _ _ _ _ _ _ _ _ _ _ _ _ _ _
   | exact ih6 _ _ _ _ _ _ _ _ _ _ _ _ _ _ _ _ _ _ _
   | exact tenorref8_Check.mono _ _ _ _ _ _ _ _ _ _ _
   | exact tenorref8_point.mono _ _ _ _ _ _ _ _ _ _ _ _ _
   | exact LeO.none _
   | refine LeO.ite ?_ ?_
   | refine LeO.bind ?_ (fun _ => ?_)
  ·
   intro y0 y1 y2 y3 y4 y5 y6 y7 y8 y9 y10 y11 y12 y13 y14 y15
   unfold tenorref8_Dates.l0
   repeat' first
   | (with_reducible exact ih0 _ _ _ _ _ _ _ _ _ _ _ _ _ _)
   | (with_reducible exact ih1 _ _ _ _ _ _ _ _ _ _ _ _ _)
   | (with_reducible exact ih2 _ _ _ _ _ _ _ _ _ _ _ _ _)
   | (with_reducible exact ih3 _ _ _ _ _ _ _ _ _ _ _ _)
   | (with_reducible exact ih4 _ _ _ _ _ _ _ _ _ _ _ _ _ _)
   | (with_reducible exact ih5 _ _ _ _ _ _ _ _ _ _ _ _ _ _ _ _)
   | (with_reducible exact ih6 _ _ _ _ _ _ _ _ _ _ _ _ _ _ _ _ _ _ _)
   | (with_reducible exact tenorref8_Check.mono _ _ _ _ _ _ _ _ _ _ _)
   | (with_reducible exact tenorref8_point.mono _ _ _ _ _ _ _ _ _ _ _ _ _)
   | (with_reducible exact LeO.refl _)
   | (with_reducible exact LeO.none _)
   | (with_reducible refine LeO.ite ?_ ?_)
   | (with_reducible refine LeO.bind ?_ (fun _ => ?_))
   | exact ih0 _ _ _ _ _ _ _ _ _ _ _ _ _ _
   | exact ih1 _ _ _ _ _ _ _ _ _ _ _ _ _
   | exact ih2 _ _ _ _ _ _ _ _ _ _ _ _ _
   | exact ih3 _ _ _ _ _ _ _ _ _ _ _ _
   | exact ih4 _ _ _ _ _ _ _ _ _ _ _ _ _ _
   | exact ih5 _ _ _ _ _ _ _ _ _ _ _ _ _ _ _ _
   | exact ih6 _ _ _ _ _ _ _ _ _ _ _ _ _ _ _ _ _ _ _
   | exact tenorref8_Check.mono _ _ _ _ _ _ _ _ _ _ _
   | exact tenorref8_point.mono _ _ _ _ _ _ _ _ _ _ _ _ _
   | exact LeO.none _
   | refine LeO.ite ?_ ?_
   | refine LeO.bind ?_ (fun _ => ?_)
  ·
   intro y0 y1 y2 y3 y4 y5 y6 y7 y8 y9 y10 y11 y12 y13 y14 y15 y16 y17 y18
   unfold tenorref8_Dates.j2
   repeat' first
   | (with_reducible exact ih0 _ _ _ _ _ _ _ _ _ _ _ _ _ _)
   | (with_reducible exact ih1 _ _ _ _ _ _ _ _ _ _ _ _ _)
   | (with_reducible exact ih2 _ _ _ _ _ _ _ _ _ _ _ _ _)
   | (with_reducible exact ih3 _ _ _ _ _ _ _ _ _ _ _ _)
   | (with_reducible exact ih4 _ _ _ _ _ _ _ _ _ _ _ _ _ _)
   | (with_reducible exact ih5 _ _ _ _ _ _ _ _ _ _ _ _ _ _ _ _)
   | (with_reducible exact ih6 _ _ _ _ _ _ _ _ _ _ _ _ _ _ _ _ _ _ _)
   | (with_reducible exact tenorref8_Check.mono _ _ _ _ _ _ _ _ _ _ _)
   | (with_reducible exact tenorref8_point.mono _ _ _ _ _ _ _ _ _ _ _ _ _)
   | (with_reducible exact LeO.refl _)
   | (with_reducible exact LeO.none _)
   | (with_reducible refine LeO.ite ?_ ?_)
   | (with_reducible refine LeO.bind ?_ (fun _ => ?_))
   | exact ih0 _ _ _ _ _ _ _ _ _ _ _ _ _ _
   | exact ih1 _ _ _ _ _ _ _ _ _ _ _ _ _
   | exact ih2 _ _ _ _ _ _ _ _ _ _ _ _ _
   | exact ih3 _ _ _ _ _ _ _ _ _ _ _ _
   | exact ih4 _ _ _ _ _ _ _ _ _ _ _ _ _ _
   | exact ih5 _ _ _ _ _ _ _ _ _ _ _ _ _ _ _ _
   | exact ih6 _ _ _ _ _ _ _ _ _ _ _ _ _ _ _ _ _ _ _
   | exact tenorref8_Check.mono _ _ _ _ _ _ _ _ _ _ _
   | exact tenorref8_point.mono _ _ _ _ _ _ _ _ _ _ _ _ _
   | exact LeO.none _
   | refine LeO.ite ?_ ?_
   | refine LeO.bind ?_ (fun _ => ?_)
theorem tenorref8_Dates.mono : ∀ a0 a1 a2 a3 a4 a5 a6 a7 a8 a9 k, LeO (tenorref8_Dates.f k a0 a1 a2 a3 a4 a5 a6 a7 a8 a9) (tenorref8_Dates.f (k + 1) a0 a1 a2 a3 a4 a5 a6 a7 a8 a9) := by
 intro a0 a1 a2 a3 a4 a5 a6 a7 a8 a9 k
 obtain ⟨ih0, ih1, ih2, ih3, ih4, ih5, ih6⟩ := tenorref8_Dates.mono_l k
 unfold tenorref8_Dates.f
 repeat' first
   | (with_reducible exact ih0 _ _ _ _ _ _ _ _ _ _ _ _ _ _)
   | (with_reducible exact ih1 _ _ _ _ _ _ _ _ _ _ _ _ _)
   | (with_reducible exact ih2 _ _ _ _ _ _ _ _ _ _ _ _ _)
   | (with_reducible exact ih3 _ _ _ _ _ _ _ _ _ _ _ _)
   | (with_reducible exact ih4 _ _ _ _ _ _ _ _ _ _ _ _ _ _)
   | (with_reducible exact ih5 _ _ _ _ _ _ _ _ _ _ _ _ _ _ _ _)
   | (with_reducible exact ih6 _ _ _ _ _ _ _ _ _ _ _ _ _ _ _ _ _ _ _)
   | (with_reducible exact tenorref8_Check.mono _ _ _ _ _ _ _ _ _ _ _)
   | (with_reducible exact tenorref8_point.mono _ _ _ _ _ _ _ _ _ _ _ _ _)
   | (with_reducible exact LeO.refl _)
   | (with_reducible exact LeO.none _)
   | (with_reducible refine LeO.ite ?_ ?_)
   | (with_reducible refine LeO.bind ?_ (fun _ => ?_))
   | exact ih0 _ _ _ _ _ _ _ _ _ _ _ _ _ _
   | exact ih1 _ _ _ _ _ _ _ _ _ _ _ _ _
   | exact ih2 _ _ _ _ _ _ _ _ _ _ _ _ _
   | exact ih3 _ _ _ _ _ _ _ _ _ _ _ _
   | exact ih4 _ _ _ _ _ _ _ _ _ _ _ _ _ _
   | exact ih5 _ _ _ _ _ _ _ _ _ _ _ _ _ _ _ _
   | exact ih6 _ _ _ _ _ _ _ _ _ _ _ _ _ _ _ _ _ _ _
   | exact tenorref8_Check.mono _ _ _ _ _ _ _ _ _ _ _
   | exact tenorref8_point.mono _ _ _ _ _ _ _ _ _ _ _ _ _
   | exact LeO.none _
   | refine LeO.ite ?_ ?_
   | refine LeO.bind ?_ (fun _ => ?_)
set_option maxHeartbeats 8000000 in
set_option maxRecDepth 100000 in
theorem tenorref8_Dates.calls (k : Nat) (a0_0 : Int) (a0_1 : Int) (a0_2 : Int) (a0_3 : Int) (a0_4 : Int) (a0_5 : Int) (a0_6 : Int) (a0_7 : Int) (a0_8 : Int) (A0_9 : Option Addr) (c0_9 : Nat) (l0_9 : List (S63)) (r1 : List Int) (r2 : Int) (w : World) (hr0_9 : Kd.C k63 w A0_9 l0_9.length l0_9) (hc0_9 : l0_9.length ≤ c0_9) (h : tenorref8_Dates.f k a0_0 a0_1 a0_2 a0_3 a0_4 a0_5 a0_6 a0_7 a0_8 l0_9 = some (r1, r2)) :
  Calls Try.prog 51 #[.agg #[.int .i64 a0_0, .int .i64 a0_1, .int .i64 a0_2, .int .i64 a0_3, .int .i64 a0_4, .int .i64 a0_5, .int .i64 a0_6, .int .i64 a0_7, .int .i64 a0_8, .slice A0_9 l0_9.length c0_9]] w fun e w' => ∃ v0_ : Value, e = .returned (.tuple #[v0_, .int .i64 r2]) ∧ Kd.R (Kd.int .i64) 3 w' w.heap.size (fun _ => True) v0_ r1 ∧ Below w.heap.size w w' := by
 have hu66 := Try.underlying66;have HR0_9 := Aside0.mk hr0_9;have HC0_9 := Aside0.mk hc0_9;clear hr0_9 hc0_9
 have HB := Aside0.mk (Below.refl w.heap.size w)
 have H : ((tenorref8_Check.f k a0_0 a0_1 a0_2 a0_3 a0_4 a0_5 a0_6 a0_7 a0_8 l0_9).bind fun t818 => (if t818 = 0 then (if a0_4 ≤ 2 then (tenorref8_Dates.j0 k (decide (a0_4 ≤ 2)) a0_1 a0_0 (-1) a0_0 a0_1 a0_2 a0_3 a0_4 a0_5 a0_6 a0_7 a0_8 l0_9) else (tenorref8_Dates.j0 k (decide (a0_4 ≤ 2)) a0_0 a0_1 1 a0_0 a0_1 a0_2 a0_3 a0_4 a0_5 a0_6 a0_7 a0_8 l0_9)) else (some (([] : List Int), t818)))) = some (r1, r2) := h
 clear h;replace H := Option.bind_eq_some_iff.mp H
 obtain ⟨t818, A20, H⟩ := H
 replace H : (if t818 = 0 then (if a0_4 ≤ 2 then (tenorref8_Dates.j0 k (decide (a0_4 ≤ 2)) a0_1 a0_0 (-1) a0_0 a0_1 a0_2 a0_3 a0_4 a0_5 a0_6 a0_7 a0_8 l0_9) else (tenorref8_Dates.j0 k (decide (a0_4 ≤ 2)) a0_0 a0_1 1 a0_0 a0_1 a0_2 a0_3 a0_4 a0_5 a0_6 a0_7 a0_8 l0_9)) else (some (([] : List Int), t818))) = some (r1, r2) := H
 have A2 := Aside0.mk A20;clear A20
 by_cases c3 : t818 = 0
 ·
  rw [if_pos c3] at H
  have c3b0 : (t818 == 0) = true := beq_iff_eq.mpr c3
  have c3b1 : (t818 != 0) = false := bne_eq_false_iff_eq.mpr c3
  clear c3;have HC4 := Aside0.mk H;clear H
  go_enter Try.func51, Try.ntmps51
  go_upto_if 28 with (first | ((with_reducible refine gate_dst (N := 1) rfl ?_); (try (refine gate_guard (by rfl) ?_; dsimp only)); refine box_event ?hg (N := 1) ?hd (cs := #[.int .i64 a0_0, .int .i64 a0_1, .int .i64 a0_2, .int .i64 a0_3, .int .i64 a0_4, .int .i64 a0_5, .int .i64 a0_6, .int .i64 a0_7, .int .i64 a0_8, .slice A0_9 l0_9.length c0_9]) (t := 66) ?hr ?_; (case hd => rfl); (case hg => rfl); (case hr => first | (go_simp; done) | (go_simp; rfl)); intro gb817 hg w5 hbox hb; have n0_ := Aside0.mk (below_step (by repeat (first | (with_reducible first | exact HB.out | apply below_alloc | apply pw_below_drewN | apply below_drew1) | exact HB.out)) hb); have n1_ := Aside0.mk (hbox); have n2_ := Aside0.mk ((by rw [hg]; exact (below_size (by repeat (first | (with_reducible first | exact HB.out | apply below_alloc | apply pw_below_drewN | apply below_drew1) | exact HB.out))) : w.heap.size ≤ gb817)); have n3_ := Aside0.mk ((by rw [hg]; exact (below_size (by repeat (first | (with_reducible first | exact HB.out | apply below_alloc | apply pw_below_drewN | apply below_drew1) | exact HB.out))) : w.heap.size ≤ gb817)); clear HB; have HB := n0_; have BK817 := n1_; have GW817 := n2_; have GE817 := n3_; clear n0_ n1_ n2_ n3_; clear hb hbox hg; have hcz6_0 : w5.cell? ⟨gb817, 0, none⟩ = some (.int .i64 a0_0) := (blk_cell BK817.out 0).trans rfl; have hcz6_1 : w5.cell? ⟨gb817, 1, none⟩ = some (.int .i64 a0_1) := (blk_cell BK817.out 1).trans rfl; have hcz6_2 : w5.cell? ⟨gb817, 2, none⟩ = some (.int .i64 a0_2) := (blk_cell BK817.out 2).trans rfl; have hcz6_3 : w5.cell? ⟨gb817, 3, none⟩ = some (.int .i64 a0_3) := (blk_cell BK817.out 3).trans rfl; have hcz6_4 : w5.cell? ⟨gb817, 4, none⟩ = some (.int .i64 a0_4) := (blk_cell BK817.out 4).trans rfl; have hcz6_5 : w5.cell? ⟨gb817, 5, none⟩ = some (.int .i64 a0_5) := (blk_cell BK817.out 5).trans rfl; have hcz6_6 : w5.cell? ⟨gb817, 6, none⟩ = some (.int .i64 a0_6) := (blk_cell BK817.out 6).trans rfl; have hcz6_7 : w5.cell? ⟨gb817, 7, none⟩ = some (.int .i64 a0_7) := (blk_cell BK817.out 7).trans rfl; have hcz6_8 : w5.cell? ⟨gb817, 8, none⟩ = some (.int .i64 a0_8) := (blk_cell BK817.out 8).trans rfl; have hcz6_9 : w5.cell? ⟨gb817, 9, none⟩ = some (.slice A0_9 l0_9.length c0_9) := (blk_cell BK817.out 9).trans rfl; have hfz6_0 := blk_frozen BK817.out 0; have hfz6_1 := blk_frozen BK817.out 1; have hfz6_2 := blk_frozen BK817.out 2; have hfz6_3 := blk_frozen BK817.out 3; have hfz6_4 := blk_frozen BK817.out 4; have hfz6_5 := blk_frozen BK817.out 5; have hfz6_6 := blk_frozen BK817.out 6; have hfz6_7 := blk_frozen BK817.out 7; have hfz6_8 := blk_frozen BK817.out 8; have hfz6_9 := blk_frozen BK817.out 9) | ((with_reducible refine gate_callee (f := 58) rfl ?_); refine goesL_ (some 17) rfl rfl Try.func58 (by kernel_rfl) rfl #[.agg #[.int .i64 a0_0, .int .i64 a0_1, .int .i64 a0_2, .int .i64 a0_3, .int .i64 a0_4, .int .i64 a0_5, .int .i64 a0_6, .int .i64 a0_7, .int .i64 a0_8, .slice A0_9 l0_9.length c0_9]] rfl (by (try simp only [List.map_toArray, List.map_cons, List.map_nil]); first | done | rfl | (simp only [List.length_drop, List.length_take]; rfl)) ?_; (with_reducible refine (tenorref8_Check.calls k a0_0 a0_1 a0_2 a0_3 a0_4 a0_5 a0_6 a0_7 a0_8 _ _ l0_9 t818 _ ?side1 ?side2 A2.out).mono ?_); (case side1 => repeat (first | exact (Kd.C_below HR0_9.out HB.out) | (with_reducible refine Kd.C_alloc ?_ _) | (with_reducible refine Kd.C_drewN ?_ _) | (with_reducible refine Kd.C_drew ?_))); (case side2 => exact HC0_9.out); rintro e w7 ⟨rfl, hb⟩; refine ⟨_, rfl, ?_⟩; have n0_ := Aside0.mk (blk_below (g := gb817) (o := .cells #[.int .i64 a0_0, .int .i64 a0_1, .int .i64 a0_2, .int .i64 a0_3, .int .i64 a0_4, .int .i64 a0_5, .int .i64 a0_6, .int .i64 a0_7, .int .i64 a0_8, .slice A0_9 l0_9.length c0_9] 66 (0, 0)) (by (with_reducible repeat (first | refine blk_drewN ?_ _ | refine blk_drew ?_ | refine blk_alloc ?_ _)); exact BK817.out) hb); have n1_ := Aside0.mk (below_step (by repeat (first | (with_reducible first | exact HB.out | apply below_alloc | apply pw_below_drewN | apply below_drew1 | refine below_set ?_ GE817.out) | exact HB.out)) hb); clear BK817; clear HB; have BK817 := n0_; have HB := n1_; clear n0_ n1_; (try clear hb); (try clear hb2); (try clear hk); (try clear hi); have hcz8_0 : w7.cell? ⟨gb817, 0, none⟩ = some (.int .i64 a0_0) := (blk_cell BK817.out 0).trans rfl; have hcz8_1 : w7.cell? ⟨gb817, 1, none⟩ = some (.int .i64 a0_1) := (blk_cell BK817.out 1).trans rfl; have hcz8_2 : w7.cell? ⟨gb817, 2, none⟩ = some (.int .i64 a0_2) := (blk_cell BK817.out 2).trans rfl; have hcz8_3 : w7.cell? ⟨gb817, 3, none⟩ = some (.int .i64 a0_3) := (blk_cell BK817.out 3).trans rfl; have hcz8_4 : w7.cell? ⟨gb817, 4, none⟩ = some (.int .i64 a0_4) := (blk_cell BK817.out 4).trans rfl; have hcz8_5 : w7.cell? ⟨gb817, 5, none⟩ = some (.int .i64 a0_5) := (blk_cell BK817.out 5).trans rfl; have hcz8_6 : w7.cell? ⟨gb817, 6, none⟩ = some (.int .i64 a0_6) := (blk_cell BK817.out 6).trans rfl; have hcz8_7 : w7.cell? ⟨gb817, 7, none⟩ = some (.int .i64 a0_7) := (blk_cell BK817.out 7).trans rfl; have hcz8_8 : w7.cell? ⟨gb817, 8, none⟩ = some (.int .i64 a0_8) := (blk_cell BK817.out 8).trans rfl; have hcz8_9 : w7.cell? ⟨gb817, 9, none⟩ = some (.slice A0_9 l0_9.length c0_9) := (blk_cell BK817.out 9).trans rfl; have hfz8_0 := blk_frozen BK817.out 0; have hfz8_1 := blk_frozen BK817.out 1; have hfz8_2 := blk_frozen BK817.out 2; have hfz8_3 := blk_frozen BK817.out 3; have hfz8_4 := blk_frozen BK817.out 4; have hfz8_5 := blk_frozen BK817.out 5; have hfz8_6 := blk_frozen BK817.out 6; have hfz8_7 := blk_frozen BK817.out 7; have hfz8_8 := blk_frozen BK817.out 8; have hfz8_9 := blk_frozen BK817.out 9))
  (try simp only [Act.put, List.setIfInBounds_toArray, List.set_cons_zero, List.set_cons_succ])
  generalize hx5 : decide (a0_4 ≤ 2) = x5 at HC4 ⊢
  go_cut [6, 7, 8] (fun v6 v7 v8 wc => ∃ (kq : Nat) (x6_3 : Int) (x7_3 : Int) (x8_3 : Int), v6 = .int .i64 x6_3 ∧ v7 = .int .i64 x7_3 ∧ v8 = .int .i64 x8_3 ∧ Aside0 (tenorref8_Dates.j0 kq x5 x6_3 x7_3 x8_3 a0_0 a0_1 a0_2 a0_3 a0_4 a0_5 a0_6 a0_7 a0_8 l0_9 = some (r1, r2)) ∧ Aside0 (kq ≤ k) ∧ Aside0 (wc.heap[gb817]? = some (.cells #[.int .i64 a0_0, .int .i64 a0_1, .int .i64 a0_2, .int .i64 a0_3, .int .i64 a0_4, .int .i64 a0_5, .int .i64 a0_6, .int .i64 a0_7, .int .i64 a0_8, (.slice A0_9 l0_9.length c0_9)] 66 (0, 0))) ∧ Aside0 (Below w.heap.size w wc))
  case first =>
   have H := HC4.out;clear HC4
   by_cases c9 : a0_4 ≤ 2
   ·
    rw [if_pos c9] at H
    have c9b0 : decide (a0_4 ≤ 2) = true := decide_eq_true c9
    clear c9
    rw [c9b0] at hx5; subst hx5
    have H' := Aside0.mk H;clear H
    have hcz10_0 : w7.cell? ⟨gb817, 0, none⟩ = some (.int .i64 a0_0) := (blk_cell BK817.out 0).trans rfl
    have hcz10_1 : w7.cell? ⟨gb817, 1, none⟩ = some (.int .i64 a0_1) := (blk_cell BK817.out 1).trans rfl
    have hcz10_2 : w7.cell? ⟨gb817, 2, none⟩ = some (.int .i64 a0_2) := (blk_cell BK817.out 2).trans rfl
    have hcz10_3 : w7.cell? ⟨gb817, 3, none⟩ = some (.int .i64 a0_3) := (blk_cell BK817.out 3).trans rfl
    have hcz10_4 : w7.cell? ⟨gb817, 4, none⟩ = some (.int .i64 a0_4) := (blk_cell BK817.out 4).trans rfl
    have hcz10_5 : w7.cell? ⟨gb817, 5, none⟩ = some (.int .i64 a0_5) := (blk_cell BK817.out 5).trans rfl
    have hcz10_6 : w7.cell? ⟨gb817, 6, none⟩ = some (.int .i64 a0_6) := (blk_cell BK817.out 6).trans rfl
    have hcz10_7 : w7.cell? ⟨gb817, 7, none⟩ = some (.int .i64 a0_7) := (blk_cell BK817.out 7).trans rfl
    have hcz10_8 : w7.cell? ⟨gb817, 8, none⟩ = some (.int .i64 a0_8) := (blk_cell BK817.out 8).trans rfl
    have hcz10_9 : w7.cell? ⟨gb817, 9, none⟩ = some (.slice A0_9 l0_9.length c0_9) := (blk_cell BK817.out 9).trans rfl
    have hfz10_0 := blk_frozen BK817.out 0;have hfz10_1 := blk_frozen BK817.out 1;have hfz10_2 := blk_frozen BK817.out 2;have hfz10_3 := blk_frozen BK817.out 3;have hfz10_4 := blk_frozen BK817.out 4;have hfz10_5 := blk_frozen BK817.out 5;have hfz10_6 := blk_frozen BK817.out 6;have hfz10_7 := blk_frozen BK817.out 7;have hfz10_8 := blk_frozen BK817.out 8;have hfz10_9 := blk_frozen BK817.out 9
    go_wp2
    go_meet
    case rel => exact ⟨_, (a0_1), (a0_0), ((-1)), (by first | rfl | (simp; done) | (simp [*]; done)), (by first | rfl | (simp; done) | (simp [*]; done)), (by first | rfl | (simp; done) | (simp [*]; done)), H', ⟨by first | omega | exact Nat.le_refl _⟩, ⟨by (with_reducible repeat (first | refine blk_drewN ?_ _ | refine blk_drew ?_ | refine blk_alloc ?_ _)); exact BK817.out⟩, ⟨by repeat (first | (with_reducible first | exact HB.out | apply below_alloc | apply pw_below_drewN | apply below_drew1 | refine below_set ?_ GE817.out) | exact HB.out)⟩⟩
   ·
    rw [if_neg c9] at H
    have c9b0 : decide (a0_4 ≤ 2) = false := decide_eq_false c9
    clear c9
    rw [c9b0] at hx5; subst hx5
    have H' := Aside0.mk H;clear H
    go_wp2
    go_meet
    case rel => exact ⟨_, (a0_0), (a0_1), (1), (by first | rfl | (simp; done) | (simp [*]; done)), (by first | rfl | (simp; done) | (simp [*]; done)), (by first | rfl | (simp; done) | (simp [*]; done)), H', ⟨by first | omega | exact Nat.le_refl _⟩, ⟨by (with_reducible repeat (first | refine blk_drewN ?_ _ | refine blk_drew ?_ | refine blk_alloc ?_ _)); exact BK817.out⟩, ⟨by repeat (first | (with_reducible first | exact HB.out | apply below_alloc | apply pw_below_drewN | apply below_drew1 | refine below_set ?_ GE817.out) | exact HB.out)⟩⟩
  case rest =>
   clear HC4
   obtain ⟨kq, x6_3, x7_3, x8_3, rfl, rfl, rfl, HA, HJ3, BK817, HB⟩ := hcut
   cases kq with
   | zero => exact absurd HA.out (by simp [tenorref8_Dates.j0])
   | succ kj3 =>
    have H := HA.out;clear HA
    simp only [tenorref8_Dates.j0] at H
    have HC11 := Aside0.mk H;clear H
    go_upto_block 0 with (fail)
    go_cut [9, 10] (fun v9 v10 wc => ∃ (kq : Nat) (x9_10 : List Int) (x10_10 : Bool), v10 = .bool x10_10 ∧ Aside0 (tenorref8_Dates.j3 kq x5 x9_10 x10_10 a0_0 a0_1 a0_2 a0_3 a0_4 a0_5 a0_6 a0_7 a0_8 l0_9 = some (r1, r2)) ∧ Aside0 (kq ≤ kj3) ∧ Aside0 (Kd.R (Kd.int .i64) 3 wc w.heap.size (fun _ => True) v9 x9_10) ∧ Aside0 (wc.heap[gb817]? = some (.cells #[.int .i64 a0_0, .int .i64 a0_1, .int .i64 a0_2, .int .i64 a0_3, .int .i64 a0_4, .int .i64 a0_5, .int .i64 a0_6, .int .i64 a0_7, .int .i64 a0_8, (.slice A0_9 l0_9.length c0_9)] 66 (0, 0))) ∧ Aside0 (Below w.heap.size w wc))
    case first =>
     have H := HC11.out;clear HC11;have H' := Aside0.mk H;clear H
     go_wp2
     go_loopg [9, 11] kj3 (fun kq v9 v11 w' => ∃ (x9_2 : List Int) (x11_2 : Int), v11 = .int .i64 x11_2 ∧ Aside0 (tenorref8_Dates.l0 kq x5 x6_3 x7_3 x8_3 x9_2 x11_2 a0_0 a0_1 a0_2 a0_3 a0_4 a0_5 a0_6 a0_7 a0_8 l0_9 = some (r1, r2)) ∧ Aside0 (kq ≤ kj3) ∧ Aside0 (Kd.R (Kd.int .i64) 3 w' w.heap.size (fun _ => True) v9 x9_2) ∧ Aside0 (w'.heap[gb817]? = some (.cells #[.int .i64 a0_0, .int .i64 a0_1, .int .i64 a0_2, .int .i64 a0_3, .int .i64 a0_4, .int .i64 a0_5, .int .i64 a0_6, .int .i64 a0_7, .int .i64 a0_8, (.slice A0_9 l0_9.length c0_9)] 66 (0, 0))) ∧ Aside0 (Below w.heap.size w w'))
     case atStart => exact ⟨(([] : List Int)), (1), (by first | rfl | (simp; done) | (simp [*]; done)), H', ⟨Nat.le_refl _⟩, ⟨by first | exact Kd.R_nil _ _ _ _ _ | exact Kd.N_nil _ _ _ _ _ | exact Kd.V_nil _ _ _ _ _ | exact Kd.Q_nil _ _ _ _ _ | exact Kd.S_nil _ _ _ _ _⟩, ⟨by (with_reducible repeat (first | refine blk_drewN ?_ _ | refine blk_drew ?_ | refine blk_alloc ?_ _)); exact BK817.out⟩, ⟨by repeat (first | (with_reducible first | exact HB.out | apply below_alloc | apply pw_below_drewN | apply below_drew1 | refine below_set ?_ GE817.out) | exact HB.out)⟩⟩
     case round =>
      clear H'
      obtain ⟨x9_2, x11_2, rfl, HA, HK2, HO_9, BK817, HB⟩ := hrel
      cases gk with
      | zero => exact absurd HA.out (by simp [tenorref8_Dates.l0])
      | succ k2 =>
       have H := HA.out;clear HA
       simp only [tenorref8_Dates.l0] at H
       replace H := Option.bind_eq_some_iff.mp H
       obtain ⟨⟨t819, t820⟩, A120, H⟩ := H
       replace H : (if t820 = true then (if x5 = true then (if t819 ≤ x7_3 then (tenorref8_Dates.j2 k2 x5 x6_3 x7_3 x8_3 x9_2 x11_2 t819 t820 true a0_0 a0_1 a0_2 a0_3 a0_4 a0_5 a0_6 a0_7 a0_8 l0_9) else (tenorref8_Dates.j2 k2 x5 x6_3 x7_3 x8_3 x9_2 x11_2 t819 t820 false a0_0 a0_1 a0_2 a0_3 a0_4 a0_5 a0_6 a0_7 a0_8 l0_9)) else (tenorref8_Dates.j2 k2 x5 x6_3 x7_3 x8_3 x9_2 x11_2 t819 t820 (decide (t819 ≥ x7_3)) a0_0 a0_1 a0_2 a0_3 a0_4 a0_5 a0_6 a0_7 a0_8 l0_9)) else (tenorref8_Dates.j2 k2 x5 x6_3 x7_3 x8_3 x9_2 x11_2 t819 t820 true a0_0 a0_1 a0_2 a0_3 a0_4 a0_5 a0_6 a0_7 a0_8 l0_9)) = some (r1, r2) := H
       have A12 := Aside0.mk A120;clear A120;have HC13 := Aside0.mk H;clear H
       have hcz14_0 : wr.cell? ⟨gb817, 0, none⟩ = some (.int .i64 a0_0) := (blk_cell BK817.out 0).trans rfl
       have hcz14_1 : wr.cell? ⟨gb817, 1, none⟩ = some (.int .i64 a0_1) := (blk_cell BK817.out 1).trans rfl
       have hcz14_2 : wr.cell? ⟨gb817, 2, none⟩ = some (.int .i64 a0_2) := (blk_cell BK817.out 2).trans rfl
       have hcz14_3 : wr.cell? ⟨gb817, 3, none⟩ = some (.int .i64 a0_3) := (blk_cell BK817.out 3).trans rfl
       have hcz14_4 : wr.cell? ⟨gb817, 4, none⟩ = some (.int .i64 a0_4) := (blk_cell BK817.out 4).trans rfl
       have hcz14_5 : wr.cell? ⟨gb817, 5, none⟩ = some (.int .i64 a0_5) := (blk_cell BK817.out 5).trans rfl
       have hcz14_6 : wr.cell? ⟨gb817, 6, none⟩ = some (.int .i64 a0_6) := (blk_cell BK817.out 6).trans rfl
       have hcz14_7 : wr.cell? ⟨gb817, 7, none⟩ = some (.int .i64 a0_7) := (blk_cell BK817.out 7).trans rfl
       have hcz14_8 : wr.cell? ⟨gb817, 8, none⟩ = some (.int .i64 a0_8) := (blk_cell BK817.out 8).trans rfl
       have hcz14_9 : wr.cell? ⟨gb817, 9, none⟩ = some (.slice A0_9 l0_9.length c0_9) := (blk_cell BK817.out 9).trans rfl
       have hfz14_0 := blk_frozen BK817.out 0;have hfz14_1 := blk_frozen BK817.out 1;have hfz14_2 := blk_frozen BK817.out 2;have hfz14_3 := blk_frozen BK817.out 3;have hfz14_4 := blk_frozen BK817.out 4;have hfz14_5 := blk_frozen BK817.out 5;have hfz14_6 := blk_frozen BK817.out 6;have hfz14_7 := blk_frozen BK817.out 7;have hfz14_8 := blk_frozen BK817.out 8;have hfz14_9 := blk_frozen BK817.out 9
       go_upto_region 17 with (first | ((with_reducible refine gate_callee (f := 89) rfl ?_); refine goesL_ (some 41) rfl rfl Try.func89 (by kernel_rfl) rfl #[.agg #[.int .i64 a0_0, .int .i64 a0_1, .int .i64 a0_2, .int .i64 a0_3, .int .i64 a0_4, .int .i64 a0_5, .int .i64 a0_6, .int .i64 a0_7, .int .i64 a0_8, .slice A0_9 l0_9.length c0_9], .int .i64 x6_3, .int .i64 (wrap64 (x11_2 * x8_3))] rfl (by (try simp only [List.map_toArray, List.map_cons, List.map_nil]); first | done | rfl | (simp only [List.length_drop, List.length_take]; rfl)) ?_; (with_reducible refine (tenorref8_point.calls k2 a0_0 a0_1 a0_2 a0_3 a0_4 a0_5 a0_6 a0_7 a0_8 _ _ l0_9 x6_3 (wrap64 (x11_2 * x8_3)) t819 t820 _ ?side1 ?side2 A12.out).mono ?_); (case side1 => repeat (first | exact (Kd.C_below HR0_9.out HB.out) | (with_reducible refine Kd.C_alloc ?_ _) | (with_reducible refine Kd.C_drewN ?_ _) | (with_reducible refine Kd.C_drew ?_))); (case side2 => exact HC0_9.out); rintro e w15 ⟨rfl, hb⟩; refine ⟨_, rfl, ?_⟩; have n0_ := Aside0.mk (Kd.R_below (by (with_reducible repeat (first | apply Kd.R_alloc | apply Kd.R_drewN | apply Kd.R_drew)); exact HO_9.out) hb); have n1_ := Aside0.mk (blk_below (g := gb817) (o := .cells #[.int .i64 a0_0, .int .i64 a0_1, .int .i64 a0_2, .int .i64 a0_3, .int .i64 a0_4, .int .i64 a0_5, .int .i64 a0_6, .int .i64 a0_7, .int .i64 a0_8, .slice A0_9 l0_9.length c0_9] 66 (0, 0)) (by (with_reducible repeat (first | refine blk_drewN ?_ _ | refine blk_drew ?_ | refine blk_alloc ?_ _)); exact BK817.out) hb); have n2_ := Aside0.mk (below_step (by repeat (first | (with_reducible first | exact HB.out | apply below_alloc | apply pw_below_drewN | apply below_drew1 | refine below_set ?_ GE817.out) | exact HB.out)) hb); clear HO_9; clear BK817; clear HB; have HO_9 := n0_; have BK817 := n1_; have HB := n2_; clear n0_ n1_ n2_; (try clear hb); (try clear hb2); (try clear hk); (try clear hi)))
       (try simp only [Act.put, List.setIfInBounds_toArray, List.set_cons_zero, List.set_cons_succ])
       go_cut [62] (fun v62 wc => ∃ (kq : Nat) (x62_12 : Bool), v62 = .bool x62_12 ∧ Aside0 (tenorref8_Dates.j2 kq x5 x6_3 x7_3 x8_3 x9_2 x11_2 t819 t820 x62_12 a0_0 a0_1 a0_2 a0_3 a0_4 a0_5 a0_6 a0_7 a0_8 l0_9 = some (r1, r2)) ∧ Aside0 (kq ≤ k2) ∧ Aside0 (Kd.R (Kd.int .i64) 3 wc w.heap.size (fun _ => True) u9 x9_2) ∧ Aside0 (wc.heap[gb817]? = some (.cells #[.int .i64 a0_0, .int .i64 a0_1, .int .i64 a0_2, .int .i64 a0_3, .int .i64 a0_4, .int .i64 a0_5, .int .i64 a0_6, .int .i64 a0_7, .int .i64 a0_8, (.slice A0_9 l0_9.length c0_9)] 66 (0, 0))) ∧ Aside0 (Below w.heap.size w wc))
       case first =>
        have H := HC13.out;clear HC13
        by_cases c16 : t820 = true
        ·
         subst c16
         have H1 : (if x5 = true then (if t819 ≤ x7_3 then (tenorref8_Dates.j2 k2 x5 x6_3 x7_3 x8_3 x9_2 x11_2 t819 true true a0_0 a0_1 a0_2 a0_3 a0_4 a0_5 a0_6 a0_7 a0_8 l0_9) else (tenorref8_Dates.j2 k2 x5 x6_3 x7_3 x8_3 x9_2 x11_2 t819 true false a0_0 a0_1 a0_2 a0_3 a0_4 a0_5 a0_6 a0_7 a0_8 l0_9)) else (tenorref8_Dates.j2 k2 x5 x6_3 x7_3 x8_3 x9_2 x11_2 t819 true (decide (t819 ≥ x7_3)) a0_0 a0_1 a0_2 a0_3 a0_4 a0_5 a0_6 a0_7 a0_8 l0_9)) = some (r1, r2) := by rw [if_pos rfl] at H; exact H
         clear H;have H := H1;clear H1
         by_cases c17 : x5 = true
         ·
          rw [if_pos c17] at H
          have c17b0 : x5 = true := c17
          clear c17;subst c17b0
          by_cases c18 : t819 ≤ x7_3
          ·
           rw [if_pos c18] at H
           have c18b0 : decide (t819 ≤ x7_3) = true := decide_eq_true c18
           clear c18;have H' := Aside0.mk H;clear H
           go_wp2
           go_meet
           case rel => exact ⟨_, (true), (by first | rfl | (simp; done) | (simp [*]; done)), H', ⟨by have := HJ3.out; have := HK2.out; first | omega | exact Nat.le_refl _⟩, ⟨by (with_reducible repeat (first | apply Kd.R_alloc | apply Kd.R_drewN | apply Kd.R_drew)); exact HO_9.out⟩, ⟨by (with_reducible repeat (first | refine blk_drewN ?_ _ | refine blk_drew ?_ | refine blk_alloc ?_ _)); exact BK817.out⟩, ⟨by repeat (first | (with_reducible first | exact HB.out | apply below_alloc | apply pw_below_drewN | apply below_drew1 | refine below_set ?_ GE817.out) | exact HB.out)⟩⟩
          ·
           rw [if_neg c18] at H
           have c18b0 : decide (t819 ≤ x7_3) = false := decide_eq_false c18
           clear c18;have H' := Aside0.mk H;clear H
           go_wp2
           go_meet
           case rel => exact ⟨_, (false), (by first | rfl | (simp; done) | (simp [*]; done)), H', ⟨by have := HJ3.out; have := HK2.out; first | omega | exact Nat.le_refl _⟩, ⟨by (with_reducible repeat (first | apply Kd.R_alloc | apply Kd.R_drewN | apply Kd.R_drew)); exact HO_9.out⟩, ⟨by (with_reducible repeat (first | refine blk_drewN ?_ _ | refine blk_drew ?_ | refine blk_alloc ?_ _)); exact BK817.out⟩, ⟨by repeat (first | (with_reducible first | exact HB.out | apply below_alloc | apply pw_below_drewN | apply below_drew1 | refine below_set ?_ GE817.out) | exact HB.out)⟩⟩
         ·
          rw [if_neg c17] at H
          have c17b0 : x5 = false := by simpa using c17
          clear c17;subst c17b0;have H' := Aside0.mk H;clear H
          go_wp2
          go_meet
          case rel => exact ⟨_, (decide (t819 ≥ x7_3)), (by first | rfl | (simp; done) | (simp [*]; done)), H', ⟨by have := HJ3.out; have := HK2.out; first | omega | exact Nat.le_refl _⟩, ⟨by (with_reducible repeat (first | apply Kd.R_alloc | apply Kd.R_drewN | apply Kd.R_drew)); exact HO_9.out⟩, ⟨by (with_reducible repeat (first | refine blk_drewN ?_ _ | refine blk_drew ?_ | refine blk_alloc ?_ _)); exact BK817.out⟩, ⟨by repeat (first | (with_reducible first | exact HB.out | apply below_alloc | apply pw_below_drewN | apply below_drew1 | refine below_set ?_ GE817.out) | exact HB.out)⟩⟩
        ·
         replace c16 := Bool.eq_false_iff.mpr c16;subst c16
         have H1 : (tenorref8_Dates.j2 k2 x5 x6_3 x7_3 x8_3 x9_2 x11_2 t819 false true a0_0 a0_1 a0_2 a0_3 a0_4 a0_5 a0_6 a0_7 a0_8 l0_9) = some (r1, r2) := by rw [if_neg (show ¬ (false = true) by decide)] at H; exact H
         clear H;have H := H1;clear H1;have H' := Aside0.mk H;clear H
         go_wp2
         go_meet
         case rel => exact ⟨_, (true), (by first | rfl | (simp; done) | (simp [*]; done)), H', ⟨by have := HJ3.out; have := HK2.out; first | omega | exact Nat.le_refl _⟩, ⟨by (with_reducible repeat (first | apply Kd.R_alloc | apply Kd.R_drewN | apply Kd.R_drew)); exact HO_9.out⟩, ⟨by (with_reducible repeat (first | refine blk_drewN ?_ _ | refine blk_drew ?_ | refine blk_alloc ?_ _)); exact BK817.out⟩, ⟨by repeat (first | (with_reducible first | exact HB.out | apply below_alloc | apply pw_below_drewN | apply below_drew1 | refine below_set ?_ GE817.out) | exact HB.out)⟩⟩
       case rest =>
        clear HC13
        obtain ⟨kq, x62_12, rfl, HA, HJ12, HO_9, BK817, HB⟩ := hcut
        cases kq with
        | zero => exact absurd HA.out (by simp [tenorref8_Dates.j2])
        | succ kj12 =>
         have H := HA.out;clear HA
         simp only [tenorref8_Dates.j2] at H
         by_cases c19 : x62_12 = true
         ·
          subst c19
          have H1 : (if t820 = true then (tenorref8_Dates.j3 kj12 x5 x9_2 (t819 == x7_3) a0_0 a0_1 a0_2 a0_3 a0_4 a0_5 a0_6 a0_7 a0_8 l0_9) else (tenorref8_Dates.j3 kj12 x5 x9_2 false a0_0 a0_1 a0_2 a0_3 a0_4 a0_5 a0_6 a0_7 a0_8 l0_9)) = some (r1, r2) := by rw [if_pos rfl] at H; exact H
          clear H;have H := H1;clear H1
          by_cases c20 : t820 = true
          ·
           subst c20
           have H1 : (tenorref8_Dates.j3 kj12 x5 x9_2 (t819 == x7_3) a0_0 a0_1 a0_2 a0_3 a0_4 a0_5 a0_6 a0_7 a0_8 l0_9) = some (r1, r2) := by rw [if_pos rfl] at H; exact H
           clear H;have H := H1;clear H1;have H' := Aside0.mk H;clear H
           go_wp2
           go_meet
           case rel => exact ⟨_, (x9_2), ((t819 == x7_3)), (by first | rfl | (simp; done) | (simp [*]; done)), H', ⟨by have := HJ3.out; have := HK2.out; have := HJ12.out; first | omega | exact Nat.le_refl _⟩, ⟨by (with_reducible repeat (first | apply Kd.R_alloc | apply Kd.R_drewN | apply Kd.R_drew)); exact HO_9.out⟩, ⟨by (with_reducible repeat (first | refine blk_drewN ?_ _ | refine blk_drew ?_ | refine blk_alloc ?_ _)); exact BK817.out⟩, ⟨by repeat (first | (with_reducible first | exact HB.out | apply below_alloc | apply pw_below_drewN | apply below_drew1 | refine below_set ?_ GE817.out) | exact HB.out)⟩⟩
          ·
           replace c20 := Bool.eq_false_iff.mpr c20;subst c20
           have H1 : (tenorref8_Dates.j3 kj12 x5 x9_2 false a0_0 a0_1 a0_2 a0_3 a0_4 a0_5 a0_6 a0_7 a0_8 l0_9) = some (r1, r2) := by rw [if_neg (show ¬ (false = true) by decide)] at H; exact H
           clear H;have H := H1;clear H1;have H' := Aside0.mk H;clear H
           go_wp2
           go_meet
           case rel => exact ⟨_, (x9_2), (false), (by first | rfl | (simp; done) | (simp [*]; done)), H', ⟨by have := HJ3.out; have := HK2.out; have := HJ12.out; first | omega | exact Nat.le_refl _⟩, ⟨by (with_reducible repeat (first | apply Kd.R_alloc | apply Kd.R_drewN | apply Kd.R_drew)); exact HO_9.out⟩, ⟨by (with_reducible repeat (first | refine blk_drewN ?_ _ | refine blk_drew ?_ | refine blk_alloc ?_ _)); exact BK817.out⟩, ⟨by repeat (first | (with_reducible first | exact HB.out | apply below_alloc | apply pw_below_drewN | apply below_drew1 | refine below_set ?_ GE817.out) | exact HB.out)⟩⟩
         ·
          replace c19 := Bool.eq_false_iff.mpr c19;subst c19
          have H1 : (if x9_2.length < 17592186044416 then ((some (x9_2 ++ [t819] : List Int)).bind fun y821 => (if (wrap64 ((y821.length : Int) + 1)) > 1200 then (some (([] : List Int), 81)) else (tenorref8_Dates.l0 kj12 x5 x6_3 x7_3 x8_3 y821 (wrap64 (x11_2 + 1)) a0_0 a0_1 a0_2 a0_3 a0_4 a0_5 a0_6 a0_7 a0_8 l0_9))) else (none)) = some (r1, r2) := by rw [if_neg (show ¬ (false = true) by decide)] at H; exact H
          clear H;have H := H1;clear H1
          by_cases c21 : x9_2.length < 17592186044416
          ·
           rw [if_pos c21] at H
           have LMc21 := Aside0.mk c21;clear c21
           obtain ⟨y821, hy821⟩ : ∃ y_ : List Int, y_ = (x9_2 ++ [t819]) := ⟨_, rfl⟩
           replace H : (if (wrap64 ((y821.length : Int) + 1)) > 1200 then (some (([] : List Int), 81)) else (tenorref8_Dates.l0 kj12 x5 x6_3 x7_3 x8_3 y821 (wrap64 (x11_2 + 1)) a0_0 a0_1 a0_2 a0_3 a0_4 a0_5 a0_6 a0_7 a0_8 l0_9)) = some (r1, r2) := by first | (rw [hy821]; with_reducible exact H) | (have H2_ := (Option.bind_some _ _).symm.trans H; rw [hy821]; with_reducible exact H2_) | (have H2_ := (Option.bind_some _ _).symm.trans H; with_reducible exact H2_) | with_reducible exact H | (rw [hy821]; exact H) | exact H
           have Ny821 := Aside0.mk hy821;clear hy821
           by_cases c22 : (wrap64 ((y821.length : Int) + 1)) > 1200
           ·
            rw [if_pos c22] at H
            have c22b0 : decide (1200 < (wrap64 ((y821.length : Int) + 1))) = true := decide_eq_true c22
            clear c22
            simp only [Option.some.injEq, Prod.mk.injEq] at H
            obtain ⟨rfl, rfl⟩ := H
            go_wp2_with (first | ((with_reducible refine gate_builtin (b := .append) (xs := #[.tmp 69, .tmp 71]) rfl ?_); (try (refine gate_guard (by rfl) ?_; dsimp only)); at_builtin; refine Kd.R_append (Kd.int .i64) (w0 := w) w.heap.size rfl (.tmp 69) (.tmp 71) 67 3 (.int .i64 0) 8 rfl Try.underlying67 info3 rfl (by decide) (by omega) u9 x9_2 t819 [.int .i64 t819] (fun _ => True) (fun _ => False) rfl rfl ?aP (fun _ hk => hk.elim) ?aF ?aO ?aB ?aS ?aL ?_; (case aP => exact rfl); (case aB => exact (by repeat (first | (with_reducible first | exact HB.out | apply below_alloc | apply pw_below_drewN | apply below_drew1 | refine below_set ?_ GE817.out) | exact HB.out))); (case aF => exact (fun _ _ => trivial)); (case aO => exact (by (with_reducible repeat (first | apply Kd.R_alloc | apply Kd.R_drewN | apply Kd.R_drew)); exact HO_9.out)); (case aS => exact (below_size (by repeat (first | (with_reducible first | exact HB.out | apply below_alloc | apply pw_below_drewN | apply below_drew1 | refine below_set ?_ GE817.out) | exact HB.out)))); (case aL => have := LMc21.out; omega); intro v822 w23 ho hb hg hat; rw [← Ny821.out] at ho; have n0_ := Aside0.mk (blk_grown (g := gb817) (o := .cells #[.int .i64 a0_0, .int .i64 a0_1, .int .i64 a0_2, .int .i64 a0_3, .int .i64 a0_4, .int .i64 a0_5, .int .i64 a0_6, .int .i64 a0_7, .int .i64 a0_8, .slice A0_9 l0_9.length c0_9] 66 (0, 0)) (by (with_reducible repeat (first | refine blk_drewN ?_ _ | refine blk_drew ?_ | refine blk_alloc ?_ _)); exact BK817.out) hg (Kd.R_ne HO_9.out BK817.out (by decide))); have n1_ := Aside0.mk (hb); have n2_ := Aside0.mk (ho); clear BK817; clear HB; clear HO_9; have BK817 := n0_; have HB := n1_; have HO823 := n2_; clear n0_ n1_ n2_; clear ho hb hg hat; obtain ⟨Ao24, co24, eo24⟩ := Kd.R_slice HO823.out; subst eo24))
            go_ret2
            exact ⟨_, by first | rfl | (simp [errW_none, errW_some] <;> rfl) | (simp [*, errW_none, errW_some] <;> rfl), by first | exact Kd.R_nil _ _ _ _ _ | exact Kd.N_nil _ _ _ _ _ | exact Kd.V_nil _ _ _ _ _ | exact Kd.Q_nil _ _ _ _ _ | exact Kd.S_nil _ _ _ _ _, by repeat (first | (with_reducible first | exact HB.out | apply below_alloc | apply pw_below_drewN | apply below_drew1 | refine below_set ?_ GE817.out) | exact HB.out)⟩
           ·
            rw [if_neg c22] at H
            have c22b0 : decide (1200 < (wrap64 ((y821.length : Int) + 1))) = false := decide_eq_false c22
            clear c22;have H' := Aside0.mk H;clear H
            go_wp2_with (first | ((with_reducible refine gate_builtin (b := .append) (xs := #[.tmp 69, .tmp 71]) rfl ?_); (try (refine gate_guard (by rfl) ?_; dsimp only)); at_builtin; refine Kd.R_append (Kd.int .i64) (w0 := w) w.heap.size rfl (.tmp 69) (.tmp 71) 67 3 (.int .i64 0) 8 rfl Try.underlying67 info3 rfl (by decide) (by omega) u9 x9_2 t819 [.int .i64 t819] (fun _ => True) (fun _ => False) rfl rfl ?aP (fun _ hk => hk.elim) ?aF ?aO ?aB ?aS ?aL ?_; (case aP => exact rfl); (case aB => exact (by repeat (first | (with_reducible first | exact HB.out | apply below_alloc | apply pw_below_drewN | apply below_drew1 | refine below_set ?_ GE817.out) | exact HB.out))); (case aF => exact (fun _ _ => trivial)); (case aO => exact (by (with_reducible repeat (first | apply Kd.R_alloc | apply Kd.R_drewN | apply Kd.R_drew)); exact HO_9.out)); (case aS => exact (below_size (by repeat (first | (with_reducible first | exact HB.out | apply below_alloc | apply pw_below_drewN | apply below_drew1 | refine below_set ?_ GE817.out) | exact HB.out)))); (case aL => have := LMc21.out; omega); intro v822 w25 ho hb hg hat; rw [← Ny821.out] at ho; have n0_ := Aside0.mk (blk_grown (g := gb817) (o := .cells #[.int .i64 a0_0, .int .i64 a0_1, .int .i64 a0_2, .int .i64 a0_3, .int .i64 a0_4, .int .i64 a0_5, .int .i64 a0_6, .int .i64 a0_7, .int .i64 a0_8, .slice A0_9 l0_9.length c0_9] 66 (0, 0)) (by (with_reducible repeat (first | refine blk_drewN ?_ _ | refine blk_drew ?_ | refine blk_alloc ?_ _)); exact BK817.out) hg (Kd.R_ne HO_9.out BK817.out (by decide))); have n1_ := Aside0.mk (hb); have n2_ := Aside0.mk (ho); clear BK817; clear HB; clear HO_9; have BK817 := n0_; have HB := n1_; have HO823 := n2_; clear n0_ n1_ n2_; clear ho hb hg hat; obtain ⟨Ao26, co26, eo26⟩ := Kd.R_slice HO823.out; subst eo26))
            go_roundg kj12
            case measure => have := HJ3.out; have := HK2.out; have := HJ12.out; omega
            case rel => exact ⟨(y821), (wrap64 (x11_2 + 1)), (by first | rfl | (simp; done) | (simp [*]; done)), H', ⟨by have := HJ3.out; have := HK2.out; have := HJ12.out; omega⟩, ⟨by (with_reducible repeat (first | apply Kd.R_alloc | apply Kd.R_drewN | apply Kd.R_drew)); exact HO823.out⟩, ⟨by (with_reducible repeat (first | refine blk_drewN ?_ _ | refine blk_drew ?_ | refine blk_alloc ?_ _)); exact BK817.out⟩, ⟨by repeat (first | (with_reducible first | exact HB.out | apply below_alloc | apply pw_below_drewN | apply below_drew1 | refine below_set ?_ GE817.out) | exact HB.out)⟩⟩
          ·
           rw [if_neg c21] at H
           exact absurd H (by simp)
    case rest =>
     clear HC11
     obtain ⟨kq, x9_10, x10_10, rfl, HA, HJ10, HO_9, BK817, HB⟩ := hcut
     cases kq with
     | zero => exact absurd HA.out (by simp [tenorref8_Dates.j3])
     | succ kj10 =>
      have H := HA.out;clear HA
      simp only [tenorref8_Dates.j3] at H
      have HC27 := Aside0.mk H;clear H
      go_upto_region 22 with (fail)
      go_cut [93] (fun v93 wc => ∃ (kq : Nat) (x93_26 : Bool), v93 = .bool x93_26 ∧ Aside0 (tenorref8_Dates.j4 kq x5 x9_10 x93_26 a0_0 a0_1 a0_2 a0_3 a0_4 a0_5 a0_6 a0_7 a0_8 l0_9 = some (r1, r2)) ∧ Aside0 (kq ≤ kj10) ∧ Aside0 (Kd.R (Kd.int .i64) 3 wc w.heap.size (fun _ => True) u9 x9_10) ∧ Aside0 (wc.heap[gb817]? = some (.cells #[.int .i64 a0_0, .int .i64 a0_1, .int .i64 a0_2, .int .i64 a0_3, .int .i64 a0_4, .int .i64 a0_5, .int .i64 a0_6, .int .i64 a0_7, .int .i64 a0_8, (.slice A0_9 l0_9.length c0_9)] 66 (0, 0))) ∧ Aside0 (Below w.heap.size w wc))
      case first =>
       have H := HC27.out;clear HC27
       by_cases c28 : a0_4 = 2
       ·
        rw [if_pos c28] at H
        have c28b0 : (a0_4 == 2) = true := beq_iff_eq.mpr c28
        have c28b1 : (a0_4 != 2) = false := bne_eq_false_iff_eq.mpr c28
        clear c28
        (first | rw [c28b0] | (simp only [i64_w, i32_w]; rw [c28b0]) | skip)
        by_cases c29 : x10_10 = true
        ·
         subst c29
         have H1 : (tenorref8_Dates.j4 kj10 x5 x9_10 false a0_0 a0_1 a0_2 a0_3 a0_4 a0_5 a0_6 a0_7 a0_8 l0_9) = some (r1, r2) := by rw [if_pos rfl] at H; exact H
         clear H;have H := H1;clear H1;have H' := Aside0.mk H;clear H
         have hcz30_0 : wc.cell? ⟨gb817, 0, none⟩ = some (.int .i64 a0_0) := (blk_cell BK817.out 0).trans rfl
         have hcz30_1 : wc.cell? ⟨gb817, 1, none⟩ = some (.int .i64 a0_1) := (blk_cell BK817.out 1).trans rfl
         have hcz30_2 : wc.cell? ⟨gb817, 2, none⟩ = some (.int .i64 a0_2) := (blk_cell BK817.out 2).trans rfl
         have hcz30_3 : wc.cell? ⟨gb817, 3, none⟩ = some (.int .i64 a0_3) := (blk_cell BK817.out 3).trans rfl
         have hcz30_4 : wc.cell? ⟨gb817, 4, none⟩ = some (.int .i64 a0_4) := (blk_cell BK817.out 4).trans rfl
         have hcz30_5 : wc.cell? ⟨gb817, 5, none⟩ = some (.int .i64 a0_5) := (blk_cell BK817.out 5).trans rfl
         have hcz30_6 : wc.cell? ⟨gb817, 6, none⟩ = some (.int .i64 a0_6) := (blk_cell BK817.out 6).trans rfl
         have hcz30_7 : wc.cell? ⟨gb817, 7, none⟩ = some (.int .i64 a0_7) := (blk_cell BK817.out 7).trans rfl
         have hcz30_8 : wc.cell? ⟨gb817, 8, none⟩ = some (.int .i64 a0_8) := (blk_cell BK817.out 8).trans rfl
         have hcz30_9 : wc.cell? ⟨gb817, 9, none⟩ = some (.slice A0_9 l0_9.length c0_9) := (blk_cell BK817.out 9).trans rfl
         have hfz30_0 := blk_frozen BK817.out 0;have hfz30_1 := blk_frozen BK817.out 1;have hfz30_2 := blk_frozen BK817.out 2;have hfz30_3 := blk_frozen BK817.out 3;have hfz30_4 := blk_frozen BK817.out 4;have hfz30_5 := blk_frozen BK817.out 5;have hfz30_6 := blk_frozen BK817.out 6;have hfz30_7 := blk_frozen BK817.out 7;have hfz30_8 := blk_frozen BK817.out 8;have hfz30_9 := blk_frozen BK817.out 9
         go_wp2
         go_meet
         case rel => exact ⟨_, (false), (by first | rfl | (simp; done) | (simp [*]; done)), H', ⟨by have := HJ3.out; have := HJ10.out; first | omega | exact Nat.le_refl _⟩, ⟨by (with_reducible repeat (first | apply Kd.R_alloc | apply Kd.R_drewN | apply Kd.R_drew)); exact HO_9.out⟩, ⟨by (with_reducible repeat (first | refine blk_drewN ?_ _ | refine blk_drew ?_ | refine blk_alloc ?_ _)); exact BK817.out⟩, ⟨by repeat (first | (with_reducible first | exact HB.out | apply below_alloc | apply pw_below_drewN | apply below_drew1 | refine below_set ?_ GE817.out) | exact HB.out)⟩⟩
        ·
         replace c29 := Bool.eq_false_iff.mpr c29;subst c29
         have H1 : (tenorref8_Dates.j4 kj10 x5 x9_10 (decide ((x9_10.length : Int) > 0)) a0_0 a0_1 a0_2 a0_3 a0_4 a0_5 a0_6 a0_7 a0_8 l0_9) = some (r1, r2) := by rw [if_neg (show ¬ (false = true) by decide)] at H; exact H
         clear H;have H := H1;clear H1;have H' := Aside0.mk H;clear H
         have hcz31_0 : wc.cell? ⟨gb817, 0, none⟩ = some (.int .i64 a0_0) := (blk_cell BK817.out 0).trans rfl
         have hcz31_1 : wc.cell? ⟨gb817, 1, none⟩ = some (.int .i64 a0_1) := (blk_cell BK817.out 1).trans rfl
         have hcz31_2 : wc.cell? ⟨gb817, 2, none⟩ = some (.int .i64 a0_2) := (blk_cell BK817.out 2).trans rfl
         have hcz31_3 : wc.cell? ⟨gb817, 3, none⟩ = some (.int .i64 a0_3) := (blk_cell BK817.out 3).trans rfl
         have hcz31_4 : wc.cell? ⟨gb817, 4, none⟩ = some (.int .i64 a0_4) := (blk_cell BK817.out 4).trans rfl
         have hcz31_5 : wc.cell? ⟨gb817, 5, none⟩ = some (.int .i64 a0_5) := (blk_cell BK817.out 5).trans rfl
         have hcz31_6 : wc.cell? ⟨gb817, 6, none⟩ = some (.int .i64 a0_6) := (blk_cell BK817.out 6).trans rfl
         have hcz31_7 : wc.cell? ⟨gb817, 7, none⟩ = some (.int .i64 a0_7) := (blk_cell BK817.out 7).trans rfl
         have hcz31_8 : wc.cell? ⟨gb817, 8, none⟩ = some (.int .i64 a0_8) := (blk_cell BK817.out 8).trans rfl
         have hcz31_9 : wc.cell? ⟨gb817, 9, none⟩ = some (.slice A0_9 l0_9.length c0_9) := (blk_cell BK817.out 9).trans rfl
         have hfz31_0 := blk_frozen BK817.out 0;have hfz31_1 := blk_frozen BK817.out 1;have hfz31_2 := blk_frozen BK817.out 2;have hfz31_3 := blk_frozen BK817.out 3;have hfz31_4 := blk_frozen BK817.out 4;have hfz31_5 := blk_frozen BK817.out 5;have hfz31_6 := blk_frozen BK817.out 6;have hfz31_7 := blk_frozen BK817.out 7;have hfz31_8 := blk_frozen BK817.out 8;have hfz31_9 := blk_frozen BK817.out 9
         obtain ⟨Ao32, co32, eo32⟩ := Kd.R_slice HO_9.out
         subst eo32
         go_wp2
         go_meet
         case rel => exact ⟨_, (decide ((x9_10.length : Int) > 0)), (by first | rfl | (simp; done) | (simp [*]; done)), H', ⟨by have := HJ3.out; have := HJ10.out; first | omega | exact Nat.le_refl _⟩, ⟨by (with_reducible repeat (first | apply Kd.R_alloc | apply Kd.R_drewN | apply Kd.R_drew)); exact HO_9.out⟩, ⟨by (with_reducible repeat (first | refine blk_drewN ?_ _ | refine blk_drew ?_ | refine blk_alloc ?_ _)); exact BK817.out⟩, ⟨by repeat (first | (with_reducible first | exact HB.out | apply below_alloc | apply pw_below_drewN | apply below_drew1 | refine below_set ?_ GE817.out) | exact HB.out)⟩⟩
       ·
        rw [if_neg c28] at H
        have c28b0 : (a0_4 == 2) = false := beq_eq_false_iff_ne.mpr c28
        have c28b1 : (a0_4 != 2) = true := bne_iff_ne.mpr c28
        (first | rw [c28b0] | (simp only [i64_w, i32_w]; rw [c28b0]) | skip)
        by_cases c33 : a0_4 = 4
        ·
         rw [if_pos c33] at H
         have c33b0 : (a0_4 == 4) = true := beq_iff_eq.mpr c33
         have c33b1 : (a0_4 != 4) = false := bne_eq_false_iff_eq.mpr c33
         clear c33
         by_cases c34 : x10_10 = true
         ·
          subst c34
          have H1 : (tenorref8_Dates.j4 kj10 x5 x9_10 false a0_0 a0_1 a0_2 a0_3 a0_4 a0_5 a0_6 a0_7 a0_8 l0_9) = some (r1, r2) := by rw [if_pos rfl] at H; exact H
          clear H;have H := H1;clear H1;have H' := Aside0.mk H;clear H
          have hcz35_0 : wc.cell? ⟨gb817, 0, none⟩ = some (.int .i64 a0_0) := (blk_cell BK817.out 0).trans rfl
          have hcz35_1 : wc.cell? ⟨gb817, 1, none⟩ = some (.int .i64 a0_1) := (blk_cell BK817.out 1).trans rfl
          have hcz35_2 : wc.cell? ⟨gb817, 2, none⟩ = some (.int .i64 a0_2) := (blk_cell BK817.out 2).trans rfl
          have hcz35_3 : wc.cell? ⟨gb817, 3, none⟩ = some (.int .i64 a0_3) := (blk_cell BK817.out 3).trans rfl
          have hcz35_4 : wc.cell? ⟨gb817, 4, none⟩ = some (.int .i64 a0_4) := (blk_cell BK817.out 4).trans rfl
          have hcz35_5 : wc.cell? ⟨gb817, 5, none⟩ = some (.int .i64 a0_5) := (blk_cell BK817.out 5).trans rfl
          have hcz35_6 : wc.cell? ⟨gb817, 6, none⟩ = some (.int .i64 a0_6) := (blk_cell BK817.out 6).trans rfl
          have hcz35_7 : wc.cell? ⟨gb817, 7, none⟩ = some (.int .i64 a0_7) := (blk_cell BK817.out 7).trans rfl
          have hcz35_8 : wc.cell? ⟨gb817, 8, none⟩ = some (.int .i64 a0_8) := (blk_cell BK817.out 8).trans rfl
          have hcz35_9 : wc.cell? ⟨gb817, 9, none⟩ = some (.slice A0_9 l0_9.length c0_9) := (blk_cell BK817.out 9).trans rfl
          have hfz35_0 := blk_frozen BK817.out 0;have hfz35_1 := blk_frozen BK817.out 1;have hfz35_2 := blk_frozen BK817.out 2;have hfz35_3 := blk_frozen BK817.out 3;have hfz35_4 := blk_frozen BK817.out 4;have hfz35_5 := blk_frozen BK817.out 5;have hfz35_6 := blk_frozen BK817.out 6;have hfz35_7 := blk_frozen BK817.out 7;have hfz35_8 := blk_frozen BK817.out 8;have hfz35_9 := blk_frozen BK817.out 9
          go_wp2
          go_meet
          case rel => exact ⟨_, (false), (by first | rfl | (simp; done) | (simp [*]; done)), H', ⟨by have := HJ3.out; have := HJ10.out; first | omega | exact Nat.le_refl _⟩, ⟨by (with_reducible repeat (first | apply Kd.R_alloc | apply Kd.R_drewN | apply Kd.R_drew)); exact HO_9.out⟩, ⟨by (with_reducible repeat (first | refine blk_drewN ?_ _ | refine blk_drew ?_ | refine blk_alloc ?_ _)); exact BK817.out⟩, ⟨by repeat (first | (with_reducible first | exact HB.out | apply below_alloc | apply pw_below_drewN | apply below_drew1 | refine below_set ?_ GE817.out) | exact HB.out)⟩⟩
         ·
          replace c34 := Bool.eq_false_iff.mpr c34;subst c34
          have H1 : (tenorref8_Dates.j4 kj10 x5 x9_10 (decide ((x9_10.length : Int) > 0)) a0_0 a0_1 a0_2 a0_3 a0_4 a0_5 a0_6 a0_7 a0_8 l0_9) = some (r1, r2) := by rw [if_neg (show ¬ (false = true) by decide)] at H; exact H
          clear H;have H := H1;clear H1;have H' := Aside0.mk H;clear H
          have hcz36_0 : wc.cell? ⟨gb817, 0, none⟩ = some (.int .i64 a0_0) := (blk_cell BK817.out 0).trans rfl
          have hcz36_1 : wc.cell? ⟨gb817, 1, none⟩ = some (.int .i64 a0_1) := (blk_cell BK817.out 1).trans rfl
          have hcz36_2 : wc.cell? ⟨gb817, 2, none⟩ = some (.int .i64 a0_2) := (blk_cell BK817.out 2).trans rfl
          have hcz36_3 : wc.cell? ⟨gb817, 3, none⟩ = some (.int .i64 a0_3) := (blk_cell BK817.out 3).trans rfl
          have hcz36_4 : wc.cell? ⟨gb817, 4, none⟩ = some (.int .i64 a0_4) := (blk_cell BK817.out 4).trans rfl
          have hcz36_5 : wc.cell? ⟨gb817, 5, none⟩ = some (.int .i64 a0_5) := (blk_cell BK817.out 5).trans rfl
          have hcz36_6 : wc.cell? ⟨gb817, 6, none⟩ = some (.int .i64 a0_6) := (blk_cell BK817.out 6).trans rfl
          have hcz36_7 : wc.cell? ⟨gb817, 7, none⟩ = some (.int .i64 a0_7) := (blk_cell BK817.out 7).trans rfl
          have hcz36_8 : wc.cell? ⟨gb817, 8, none⟩ = some (.int .i64 a0_8) := (blk_cell BK817.out 8).trans rfl
          have hcz36_9 : wc.cell? ⟨gb817, 9, none⟩ = some (.slice A0_9 l0_9.length c0_9) := (blk_cell BK817.out 9).trans rfl
          have hfz36_0 := blk_frozen BK817.out 0;have hfz36_1 := blk_frozen BK817.out 1;have hfz36_2 := blk_frozen BK817.out 2;have hfz36_3 := blk_frozen BK817.out 3;have hfz36_4 := blk_frozen BK817.out 4;have hfz36_5 := blk_frozen BK817.out 5;have hfz36_6 := blk_frozen BK817.out 6;have hfz36_7 := blk_frozen BK817.out 7;have hfz36_8 := blk_frozen BK817.out 8;have hfz36_9 := blk_frozen BK817.out 9
          obtain ⟨Ao37, co37, eo37⟩ := Kd.R_slice HO_9.out
          subst eo37
          go_wp2
          go_meet
          case rel => exact ⟨_, (decide ((x9_10.length : Int) > 0)), (by first | rfl | (simp; done) | (simp [*]; done)), H', ⟨by have := HJ3.out; have := HJ10.out; first | omega | exact Nat.le_refl _⟩, ⟨by (with_reducible repeat (first | apply Kd.R_alloc | apply Kd.R_drewN | apply Kd.R_drew)); exact HO_9.out⟩, ⟨by (with_reducible repeat (first | refine blk_drewN ?_ _ | refine blk_drew ?_ | refine blk_alloc ?_ _)); exact BK817.out⟩, ⟨by repeat (first | (with_reducible first | exact HB.out | apply below_alloc | apply pw_below_drewN | apply below_drew1 | refine below_set ?_ GE817.out) | exact HB.out)⟩⟩
        ·
         rw [if_neg c33] at H
         have c33b0 : (a0_4 == 4) = false := beq_eq_false_iff_ne.mpr c33
         have c33b1 : (a0_4 != 4) = true := bne_iff_ne.mpr c33
         have H' := Aside0.mk H;clear H
         have hcz38_0 : wc.cell? ⟨gb817, 0, none⟩ = some (.int .i64 a0_0) := (blk_cell BK817.out 0).trans rfl
         have hcz38_1 : wc.cell? ⟨gb817, 1, none⟩ = some (.int .i64 a0_1) := (blk_cell BK817.out 1).trans rfl
         have hcz38_2 : wc.cell? ⟨gb817, 2, none⟩ = some (.int .i64 a0_2) := (blk_cell BK817.out 2).trans rfl
         have hcz38_3 : wc.cell? ⟨gb817, 3, none⟩ = some (.int .i64 a0_3) := (blk_cell BK817.out 3).trans rfl
         have hcz38_4 : wc.cell? ⟨gb817, 4, none⟩ = some (.int .i64 a0_4) := (blk_cell BK817.out 4).trans rfl
         have hcz38_5 : wc.cell? ⟨gb817, 5, none⟩ = some (.int .i64 a0_5) := (blk_cell BK817.out 5).trans rfl
         have hcz38_6 : wc.cell? ⟨gb817, 6, none⟩ = some (.int .i64 a0_6) := (blk_cell BK817.out 6).trans rfl
         have hcz38_7 : wc.cell? ⟨gb817, 7, none⟩ = some (.int .i64 a0_7) := (blk_cell BK817.out 7).trans rfl
         have hcz38_8 : wc.cell? ⟨gb817, 8, none⟩ = some (.int .i64 a0_8) := (blk_cell BK817.out 8).trans rfl
         have hcz38_9 : wc.cell? ⟨gb817, 9, none⟩ = some (.slice A0_9 l0_9.length c0_9) := (blk_cell BK817.out 9).trans rfl
         have hfz38_0 := blk_frozen BK817.out 0;have hfz38_1 := blk_frozen BK817.out 1;have hfz38_2 := blk_frozen BK817.out 2;have hfz38_3 := blk_frozen BK817.out 3;have hfz38_4 := blk_frozen BK817.out 4;have hfz38_5 := blk_frozen BK817.out 5;have hfz38_6 := blk_frozen BK817.out 6;have hfz38_7 := blk_frozen BK817.out 7;have hfz38_8 := blk_frozen BK817.out 8;have hfz38_9 := blk_frozen BK817.out 9
         go_wp2
         go_meet
         case rel => exact ⟨_, (false), (by first | rfl | (simp; done) | (simp [*]; done)), H', ⟨by have := HJ3.out; have := HJ10.out; first | omega | exact Nat.le_refl _⟩, ⟨by (with_reducible repeat (first | apply Kd.R_alloc | apply Kd.R_drewN | apply Kd.R_drew)); exact HO_9.out⟩, ⟨by (with_reducible repeat (first | refine blk_drewN ?_ _ | refine blk_drew ?_ | refine blk_alloc ?_ _)); exact BK817.out⟩, ⟨by repeat (first | (with_reducible first | exact HB.out | apply below_alloc | apply pw_below_drewN | apply below_drew1 | refine below_set ?_ GE817.out) | exact HB.out)⟩⟩
      case rest =>
       clear HC27
       obtain ⟨kq, x93_26, rfl, HA, HJ26, HO_9, BK817, HB⟩ := hcut
       cases kq with
       | zero => exact absurd HA.out (by simp [tenorref8_Dates.j4])
       | succ kj26 =>
        have H := HA.out;clear HA
        simp only [tenorref8_Dates.j4] at H
        have HC39 := Aside0.mk H;clear H
        go_upto_if 93 with (fail)
        go_cut [9] (fun v9 wc => ∃ (kq : Nat) (x9_38 : List Int), Aside0 (tenorref8_Dates.j5 kq x5 x9_38 a0_0 a0_1 a0_2 a0_3 a0_4 a0_5 a0_6 a0_7 a0_8 l0_9 = some (r1, r2)) ∧ Aside0 (kq ≤ kj26) ∧ Aside0 (Kd.R (Kd.int .i64) 3 wc w.heap.size (fun _ => True) v9 x9_38) ∧ Aside0 (wc.heap[gb817]? = some (.cells #[.int .i64 a0_0, .int .i64 a0_1, .int .i64 a0_2, .int .i64 a0_3, .int .i64 a0_4, .int .i64 a0_5, .int .i64 a0_6, .int .i64 a0_7, .int .i64 a0_8, (.slice A0_9 l0_9.length c0_9)] 66 (0, 0))) ∧ Aside0 (Below w.heap.size w wc))
        case first =>
         have H := HC39.out;clear HC39
         by_cases c40 : x93_26 = true
         ·
          subst c40
          have H1 : (if 0 ≤ (wrap64 ((x9_10.length : Int) - 1)) then (if (wrap64 ((x9_10.length : Int) - 1)) ≤ (x9_10.length : Int) then (tenorref8_Dates.j5 kj26 x5 (x9_10.take ((wrap64 ((x9_10.length : Int) - 1)) : Int).toNat) a0_0 a0_1 a0_2 a0_3 a0_4 a0_5 a0_6 a0_7 a0_8 l0_9) else (none)) else (none)) = some (r1, r2) := by rw [if_pos rfl] at H; exact H
          clear H;have H := H1;clear H1
          obtain ⟨ji41, hji41⟩ : ∃ j_ : Int, (wrap64 ((x9_10.length : Int) - 1)) = j_ := ⟨_, rfl⟩
          replace H : (if 0 ≤ (ji41) then (if (ji41) ≤ (x9_10.length : Int) then (tenorref8_Dates.j5 kj26 x5 (x9_10.take ((ji41) : Int).toNat) a0_0 a0_1 a0_2 a0_3 a0_4 a0_5 a0_6 a0_7 a0_8 l0_9) else (none)) else (none)) = some (r1, r2) := by first | (rw [hji41] at H; exact H) | (simp only [hji41] at H ⊢; exact H)
          have hji41w : (IntKind.i64.wrap ((x9_10.length : Int) - 1)) = ji41 := (i64_w _).trans hji41
          by_cases c42 : 0 ≤ (ji41)
          ·
           rw [if_pos c42] at H
           have c42b0 := eq_true c42
           have c42b1 : decide (0 ≤ (ji41)) = true := decide_eq_true c42
           clear c42
           by_cases c43 : (ji41) ≤ (x9_10.length : Int)
           ·
            rw [if_pos c43] at H
            have c43b0 := eq_true c43
            have c43b1 : decide ((ji41) ≤ (x9_10.length : Int)) = true := decide_eq_true c43
            clear c43
            obtain ⟨y824, hy824⟩ : ∃ y_ : List Int, y_ = (x9_10.take ((ji41) : Int).toNat) := ⟨_, rfl⟩
            replace H : (tenorref8_Dates.j5 kj26 x5 y824 a0_0 a0_1 a0_2 a0_3 a0_4 a0_5 a0_6 a0_7 a0_8 l0_9) = some (r1, r2) := by first | (rw [hy824]; with_reducible exact H) | (have H2_ := (Option.bind_some _ _).symm.trans H; rw [hy824]; with_reducible exact H2_) | (have H2_ := (Option.bind_some _ _).symm.trans H; with_reducible exact H2_) | with_reducible exact H | (rw [hy824]; exact H) | exact H
            have Ny824 := Aside0.mk hy824;clear hy824;have H' := Aside0.mk H;clear H
            obtain ⟨Ao44, co44, eo44⟩ := Kd.R_slice HO_9.out
            subst eo44
            have q45 : ((ji41) : Int) ≤ ((x9_10.length : Int) : Int) := of_decide_eq_true (by first | (with_reducible assumption) | assumption)
            obtain ⟨i045, hi045, _, hsz45, _⟩ := info_parts info3
            have hcut45 := cut_to (P := Try.prog) 67 3 .i64 Try.underlying67 hi045 Ao44 x9_10.length co44 (ji41) (of_decide_eq_true (by first | (with_reducible assumption) | assumption)) q45 (Kd.R_reads' HO_9.out).2.1
            have hr45 := Kd.R_take (m := ((ji41) : Int).toNat) HO_9.out (by omega)
            have hy45 : y824.length = ((ji41) : Int).toNat := (by rw [Ny824.out, List.length_take]; omega)
            rw [← Ny824.out] at hr45
            rw [← hy45] at hr45 hcut45
            clear hy45 hi045 hsz45 HO_9;have HO826 := Aside0.mk hr45;clear hr45;replace q45 := eq_true q45
            go_wp2
            go_meet
            case rel => exact ⟨_, (y824), H', ⟨by have := HJ3.out; have := HJ10.out; have := HJ26.out; first | omega | exact Nat.le_refl _⟩, ⟨by (with_reducible repeat (first | apply Kd.R_alloc | apply Kd.R_drewN | apply Kd.R_drew)); exact HO826.out⟩, ⟨by (with_reducible repeat (first | refine blk_drewN ?_ _ | refine blk_drew ?_ | refine blk_alloc ?_ _)); exact BK817.out⟩, ⟨by repeat (first | (with_reducible first | exact HB.out | apply below_alloc | apply pw_below_drewN | apply below_drew1 | refine below_set ?_ GE817.out) | exact HB.out)⟩⟩
           ·
            rw [if_neg c43] at H
            exact absurd H (by simp)
          ·
           rw [if_neg c42] at H
           exact absurd H (by simp)
         ·
          replace c40 := Bool.eq_false_iff.mpr c40;subst c40
          have H1 : (tenorref8_Dates.j5 kj26 x5 x9_10 a0_0 a0_1 a0_2 a0_3 a0_4 a0_5 a0_6 a0_7 a0_8 l0_9) = some (r1, r2) := by rw [if_neg (show ¬ (false = true) by decide)] at H; exact H
          clear H;have H := H1;clear H1;have H' := Aside0.mk H;clear H
          go_wp2
          go_meet
          case rel => exact ⟨_, (x9_10), H', ⟨by have := HJ3.out; have := HJ10.out; have := HJ26.out; first | omega | exact Nat.le_refl _⟩, ⟨by (with_reducible repeat (first | apply Kd.R_alloc | apply Kd.R_drewN | apply Kd.R_drew)); exact HO_9.out⟩, ⟨by (with_reducible repeat (first | refine blk_drewN ?_ _ | refine blk_drew ?_ | refine blk_alloc ?_ _)); exact BK817.out⟩, ⟨by repeat (first | (with_reducible first | exact HB.out | apply below_alloc | apply pw_below_drewN | apply below_drew1 | refine below_set ?_ GE817.out) | exact HB.out)⟩⟩
        case rest =>
         clear HC39
         obtain ⟨kq, x9_38, HA, HJ38, HO_9, BK817, HB⟩ := hcut
         cases kq with
         | zero => exact absurd HA.out (by simp [tenorref8_Dates.j5])
         | succ kj38 =>
          have H := HA.out;clear HA
          simp only [tenorref8_Dates.j5] at H
          obtain ⟨y827, hy827⟩ : ∃ y_ : List Int, y_ = (([a0_0] : List Int)) := ⟨_, rfl⟩
          replace H : (tenorref8_Dates.l1 kj38 x5 x9_38 y827 0 a0_0 a0_1 a0_2 a0_3 a0_4 a0_5 a0_6 a0_7 a0_8 l0_9) = some (r1, r2) := by first | (rw [hy827]; with_reducible exact H) | (have H2_ := (Option.bind_some _ _).symm.trans H; rw [hy827]; with_reducible exact H2_) | (have H2_ := (Option.bind_some _ _).symm.trans H; with_reducible exact H2_) | with_reducible exact H | (rw [hy827]; exact H) | exact H
          have Ny827 := Aside0.mk hy827;clear hy827;have H' := Aside0.mk H;clear H
          have hcz46_0 : wc.cell? ⟨gb817, 0, none⟩ = some (.int .i64 a0_0) := (blk_cell BK817.out 0).trans rfl
          have hcz46_1 : wc.cell? ⟨gb817, 1, none⟩ = some (.int .i64 a0_1) := (blk_cell BK817.out 1).trans rfl
          have hcz46_2 : wc.cell? ⟨gb817, 2, none⟩ = some (.int .i64 a0_2) := (blk_cell BK817.out 2).trans rfl
          have hcz46_3 : wc.cell? ⟨gb817, 3, none⟩ = some (.int .i64 a0_3) := (blk_cell BK817.out 3).trans rfl
          have hcz46_4 : wc.cell? ⟨gb817, 4, none⟩ = some (.int .i64 a0_4) := (blk_cell BK817.out 4).trans rfl
          have hcz46_5 : wc.cell? ⟨gb817, 5, none⟩ = some (.int .i64 a0_5) := (blk_cell BK817.out 5).trans rfl
          have hcz46_6 : wc.cell? ⟨gb817, 6, none⟩ = some (.int .i64 a0_6) := (blk_cell BK817.out 6).trans rfl
          have hcz46_7 : wc.cell? ⟨gb817, 7, none⟩ = some (.int .i64 a0_7) := (blk_cell BK817.out 7).trans rfl
          have hcz46_8 : wc.cell? ⟨gb817, 8, none⟩ = some (.int .i64 a0_8) := (blk_cell BK817.out 8).trans rfl
          have hcz46_9 : wc.cell? ⟨gb817, 9, none⟩ = some (.slice A0_9 l0_9.length c0_9) := (blk_cell BK817.out 9).trans rfl
          have hfz46_0 := blk_frozen BK817.out 0;have hfz46_1 := blk_frozen BK817.out 1;have hfz46_2 := blk_frozen BK817.out 2;have hfz46_3 := blk_frozen BK817.out 3;have hfz46_4 := blk_frozen BK817.out 4;have hfz46_5 := blk_frozen BK817.out 5;have hfz46_6 := blk_frozen BK817.out 6;have hfz46_7 := blk_frozen BK817.out 7;have hfz46_8 := blk_frozen BK817.out 8;have hfz46_9 := blk_frozen BK817.out 9
          go_wp2_with (first | ((with_reducible refine gate_dst (N := 101) rfl ?_); (try (refine gate_guard (by rfl) ?_; dsimp only)); refine Kd.R_lit (Kd.int .i64) _ 3 ?hg (N := 101) ?hd (xs := ([a0_0] : List Int)) (inner := [.int .i64 a0_0]) (ok := fun _ => True) (okp := fun _ => True) ?hr ?hp (fun _ hk => hk) trivial (Below.refl _ _) (Nat.le_refl _) (by simp) ?_; (case hd => rfl); (case hg => rfl); (case hr => first | (go_simp; done) | (go_simp; rfl)); (case hp => exact (Reps.one (show Kd.M (Kd.int .i64) _ _ _ a0_0 [.int .i64 a0_0] from rfl) (Reps.none _ _))); intro v828 w47 ho48 hb hg_ hnew_; clear hg_ hnew_; (first | rw [← Ny827.out] at ho48 | (simp only [Int.reduceToNat] at ho48; rw [← Ny827.out] at ho48)); have n0_ := Aside0.mk (Kd.R_elder' (by (with_reducible repeat (first | apply Kd.R_alloc | apply Kd.R_drewN | apply Kd.R_drew)); exact HO_9.out) (Kd.R_base ho48) hb); have n1_ := Aside0.mk (Kd.R_lower (Kd.R_new' ho48 (Kd.R_lt (by (with_reducible repeat (first | apply Kd.R_alloc | apply Kd.R_drewN | apply Kd.R_drew)); exact HO_9.out))) (below_size (by repeat (first | (with_reducible first | exact HB.out | apply below_alloc | apply pw_below_drewN | apply below_drew1 | refine below_set ?_ GE817.out) | exact HB.out)))); have n2_ := Aside0.mk (blk_below (g := gb817) (o := .cells #[.int .i64 a0_0, .int .i64 a0_1, .int .i64 a0_2, .int .i64 a0_3, .int .i64 a0_4, .int .i64 a0_5, .int .i64 a0_6, .int .i64 a0_7, .int .i64 a0_8, .slice A0_9 l0_9.length c0_9] 66 (0, 0)) (by (with_reducible repeat (first | refine blk_drewN ?_ _ | refine blk_drew ?_ | refine blk_alloc ?_ _)); exact BK817.out) hb); have n3_ := Aside0.mk (below_step (by repeat (first | (with_reducible first | exact HB.out | apply below_alloc | apply pw_below_drewN | apply below_drew1 | refine below_set ?_ GE817.out) | exact HB.out)) hb); clear HO_9; clear BK817; clear HB; have HO_9 := n0_; have HO829 := n1_; have BK817 := n2_; have HB := n3_; clear n0_ n1_ n2_ n3_; clear hb ho48))
          go_loopg [14, 15] kj38 (fun kq v14 v15 w' => ∃ (x14_5 : List Int) (x15_5 : Int), v15 = .int .i64 x15_5 ∧ Aside0 (tenorref8_Dates.l1 kq x5 x9_38 x14_5 x15_5 a0_0 a0_1 a0_2 a0_3 a0_4 a0_5 a0_6 a0_7 a0_8 l0_9 = some (r1, r2)) ∧ Aside0 (kq ≤ kj38) ∧ Aside0 (Kd.R (Kd.int .i64) 3 w' w.heap.size (fun k_ => some k_ ≠ (v14 : Value).ownBlock) u9 x9_38) ∧ Aside0 (Kd.R (Kd.int .i64) 3 w' w.heap.size (fun k_ => some k_ ≠ (u9 : Value).ownBlock) v14 x14_5) ∧ Aside0 (w'.heap[gb817]? = some (.cells #[.int .i64 a0_0, .int .i64 a0_1, .int .i64 a0_2, .int .i64 a0_3, .int .i64 a0_4, .int .i64 a0_5, .int .i64 a0_6, .int .i64 a0_7, .int .i64 a0_8, (.slice A0_9 l0_9.length c0_9)] 66 (0, 0))) ∧ Aside0 (Below w.heap.size w w'))
          case atStart => exact ⟨(y827), (0), (by first | rfl | (simp; done) | (simp [*]; done)), H', ⟨Nat.le_refl _⟩, ⟨by (with_reducible repeat (first | apply Kd.R_alloc | apply Kd.R_drewN | apply Kd.R_drew)); exact Kd.R_mono HO_9.out (fun _ hk => hk.2)⟩, ⟨by (with_reducible repeat (first | apply Kd.R_alloc | apply Kd.R_drewN | apply Kd.R_drew)); exact Kd.R_mono HO829.out (fun _ hk => hk.2)⟩, ⟨by (with_reducible repeat (first | refine blk_drewN ?_ _ | refine blk_drew ?_ | refine blk_alloc ?_ _)); exact BK817.out⟩, ⟨by repeat (first | (with_reducible first | exact HB.out | apply below_alloc | apply pw_below_drewN | apply below_drew1 | refine below_set ?_ GE817.out) | exact HB.out)⟩⟩
          case round =>
           clear H'
           obtain ⟨x14_5, x15_5, rfl, HA, HK5, HO_9, HO_14, BK817, HB⟩ := hrel
           cases gk with
           | zero => exact absurd HA.out (by simp [tenorref8_Dates.l1])
           | succ k5 =>
            have H := HA.out;clear HA
            simp only [tenorref8_Dates.l1] at H
            by_cases c49 : x15_5 < (x9_38.length : Int)
            ·
             rw [if_pos c49] at H
             have c49b0 : decide (x15_5 < (x9_38.length : Int)) = true := decide_eq_true c49
             clear c49
             by_cases c50 : x5 = true
             ·
              rw [if_pos c50] at H
              have c50b0 : x5 = true := c50
              clear c50;subst c50b0
              obtain ⟨ji51, hji51⟩ : ∃ j_ : Int, (wrap64 ((wrap64 ((x9_38.length : Int) - 1)) - x15_5)) = j_ := ⟨_, rfl⟩
              replace H : (if 0 ≤ (ji51) then (if (ji51) < (x9_38.length : Int) then (if x14_5.length < 17592186044416 then (tenorref8_Dates.l1 k5 true x9_38 (x14_5 ++ [rd x9_38 (ji51)]) (wrap64 (x15_5 + 1)) a0_0 a0_1 a0_2 a0_3 a0_4 a0_5 a0_6 a0_7 a0_8 l0_9) else (none)) else (none)) else (none)) = some (r1, r2) := by first | (rw [hji51] at H; exact H) | (simp only [hji51] at H ⊢; exact H)
              have hji51w : (IntKind.i64.wrap ((wrap64 ((x9_38.length : Int) - 1)) - x15_5)) = ji51 := (i64_w _).trans hji51
              by_cases c52 : 0 ≤ (ji51)
              ·
               rw [if_pos c52] at H
               have c52b0 : decide (0 ≤ (ji51)) = true := decide_eq_true c52
               clear c52
               by_cases c53 : (ji51) < (x9_38.length : Int)
               ·
                rw [if_pos c53] at H
                have c53b0 : decide ((ji51) < (x9_38.length : Int)) = true := decide_eq_true c53
                clear c53
                by_cases c54 : x14_5.length < 17592186044416
                ·
                 rw [if_pos c54] at H
                 have LMc54 := Aside0.mk c54;clear c54
                 obtain ⟨y831, hy831⟩ : ∃ y_ : List Int, y_ = (x14_5 ++ [rd x9_38 (ji51)]) := ⟨_, rfl⟩
                 replace H : (tenorref8_Dates.l1 k5 true x9_38 y831 (wrap64 (x15_5 + 1)) a0_0 a0_1 a0_2 a0_3 a0_4 a0_5 a0_6 a0_7 a0_8 l0_9) = some (r1, r2) := by first | (rw [hy831]; with_reducible exact H) | (have H2_ := (Option.bind_some _ _).symm.trans H; rw [hy831]; with_reducible exact H2_) | (have H2_ := (Option.bind_some _ _).symm.trans H; with_reducible exact H2_) | with_reducible exact H | (rw [hy831]; exact H) | exact H
                 have Ny831 := Aside0.mk hy831;clear hy831;have H' := Aside0.mk H;clear H
                 obtain ⟨Ao55, co55, eo55⟩ := Kd.R_slice HO_9.out
                 subst eo55
                 have p830 : 0 ≤ ((ji51) : Int) := of_decide_eq_true (by first | (with_reducible assumption) | assumption)
                 have q830 : (ji51) < (x9_38.length : Int) := of_decide_eq_true (by first | (with_reducible assumption) | assumption)
                 obtain ⟨ad830, e830, hx830_0⟩ := Kd.at_int (Kd.R_reads' HO_9.out).2.2 (ji51) p830 q830
                 cases e830
                 replace p830 := eq_true p830;replace q830 := eq_true q830
                 go_wp2_with (first | ((with_reducible refine gate_builtin (b := .append) (xs := #[.tmp 109, .tmp 118]) rfl ?_); (try (refine gate_guard (by rfl) ?_; dsimp only)); at_builtin; refine Kd.R_append (Kd.int .i64) (w0 := w) w.heap.size rfl (.tmp 109) (.tmp 118) 67 3 (.int .i64 0) 8 rfl Try.underlying67 info3 rfl (by decide) (by omega) u14 x14_5 (rd x9_38 (ji51)) [.int .i64 (rd x9_38 (ji51))] (fun k_ => some k_ ≠ (.slice (some ad830) x9_38.length co55 : Value).ownBlock) (fun _ => False) rfl rfl ?aP (fun _ hk => hk.elim) ?aF ?aO ?aB ?aS ?aL ?_; (case aP => exact rfl); (case aB => exact (by repeat (first | (with_reducible first | exact HB.out | apply below_alloc | apply pw_below_drewN | apply below_drew1 | refine below_set ?_ GE817.out) | exact HB.out))); (case aF => exact (fun k_ hk => Kd.fresh' (Kd.R_lt (by (with_reducible repeat (first | apply Kd.R_alloc | apply Kd.R_drewN | apply Kd.R_drew)); exact HO_9.out)) k_ hk)); (case aO => exact (by (with_reducible repeat (first | apply Kd.R_alloc | apply Kd.R_drewN | apply Kd.R_drew)); exact HO_14.out)); (case aS => exact (below_size (by repeat (first | (with_reducible first | exact HB.out | apply below_alloc | apply pw_below_drewN | apply below_drew1 | refine below_set ?_ GE817.out) | exact HB.out)))); (case aL => have := LMc54.out; omega); intro v832 w56 ho hb hg hat; rw [← Ny831.out] at ho; have n0_ := Aside0.mk (Kd.R_after (ok := (fun _ => True)) (by (with_reducible repeat (first | apply Kd.R_alloc | apply Kd.R_drewN | apply Kd.R_drew)); exact Kd.R_mono HO_9.out (fun _ hk => ⟨trivial, hk⟩)) hg hat); have n1_ := Aside0.mk (blk_grown (g := gb817) (o := .cells #[.int .i64 a0_0, .int .i64 a0_1, .int .i64 a0_2, .int .i64 a0_3, .int .i64 a0_4, .int .i64 a0_5, .int .i64 a0_6, .int .i64 a0_7, .int .i64 a0_8, .slice A0_9 l0_9.length c0_9] 66 (0, 0)) (by (with_reducible repeat (first | refine blk_drewN ?_ _ | refine blk_drew ?_ | refine blk_alloc ?_ _)); exact BK817.out) hg (Kd.R_ne HO_14.out BK817.out (by decide))); have n2_ := Aside0.mk (hb); have n3_ := Aside0.mk (ho); clear HO_9; clear BK817; clear HB; clear HO_14; have HO_9 := n0_; have BK817 := n1_; have HB := n2_; have HO833 := n3_; clear n0_ n1_ n2_ n3_; clear ho hb hg hat))
                 go_roundg k5
                 case measure => have := HJ3.out; have := HJ10.out; have := HJ26.out; have := HJ38.out; have := HK5.out; omega
                 case rel => exact ⟨(y831), (wrap64 (x15_5 + 1)), (by first | rfl | (simp; done) | (simp [*]; done)), H', ⟨by have := HJ3.out; have := HJ10.out; have := HJ26.out; have := HJ38.out; have := HK5.out; omega⟩, ⟨by (with_reducible repeat (first | apply Kd.R_alloc | apply Kd.R_drewN | apply Kd.R_drew)); exact Kd.R_mono HO_9.out (fun _ hk => hk.2)⟩, ⟨by (with_reducible repeat (first | apply Kd.R_alloc | apply Kd.R_drewN | apply Kd.R_drew)); exact HO833.out⟩, ⟨by (with_reducible repeat (first | refine blk_drewN ?_ _ | refine blk_drew ?_ | refine blk_alloc ?_ _)); exact BK817.out⟩, ⟨by repeat (first | (with_reducible first | exact HB.out | apply below_alloc | apply pw_below_drewN | apply below_drew1 | refine below_set ?_ GE817.out) | exact HB.out)⟩⟩
                ·
                 rw [if_neg c54] at H
                 exact absurd H (by simp)
               ·
                rw [if_neg c53] at H
                exact absurd H (by simp)
              ·
               rw [if_neg c52] at H
               exact absurd H (by simp)
             ·
              rw [if_neg c50] at H
              have c50b0 : x5 = false := by simpa using c50
              clear c50;subst c50b0
              by_cases c57 : 0 ≤ x15_5
              ·
               rw [if_pos c57] at H
               have c57b0 : decide (0 ≤ x15_5) = true := decide_eq_true c57
               clear c57
               by_cases c58 : x14_5.length < 17592186044416
               ·
                rw [if_pos c58] at H
                have LMc58 := Aside0.mk c58;clear c58
                obtain ⟨y835, hy835⟩ : ∃ y_ : List Int, y_ = (x14_5 ++ [rd x9_38 x15_5]) := ⟨_, rfl⟩
                replace H : (tenorref8_Dates.l1 k5 false x9_38 y835 (wrap64 (x15_5 + 1)) a0_0 a0_1 a0_2 a0_3 a0_4 a0_5 a0_6 a0_7 a0_8 l0_9) = some (r1, r2) := by first | (rw [hy835]; with_reducible exact H) | (have H2_ := (Option.bind_some _ _).symm.trans H; rw [hy835]; with_reducible exact H2_) | (have H2_ := (Option.bind_some _ _).symm.trans H; with_reducible exact H2_) | with_reducible exact H | (rw [hy835]; exact H) | exact H
                have Ny835 := Aside0.mk hy835;clear hy835;have H' := Aside0.mk H;clear H
                obtain ⟨Ao59, co59, eo59⟩ := Kd.R_slice HO_9.out
                subst eo59
                have p834 : 0 ≤ (x15_5 : Int) := of_decide_eq_true (by first | (with_reducible assumption) | assumption)
                have q834 : x15_5 < (x9_38.length : Int) := of_decide_eq_true (by first | (with_reducible assumption) | assumption)
                obtain ⟨ad834, e834, hx834_0⟩ := Kd.at_int (Kd.R_reads' HO_9.out).2.2 x15_5 p834 q834
                cases e834
                replace p834 := eq_true p834;replace q834 := eq_true q834
                go_wp2_with (first | ((with_reducible refine gate_builtin (b := .append) (xs := #[.tmp 120, .tmp 125]) rfl ?_); (try (refine gate_guard (by rfl) ?_; dsimp only)); at_builtin; refine Kd.R_append (Kd.int .i64) (w0 := w) w.heap.size rfl (.tmp 120) (.tmp 125) 67 3 (.int .i64 0) 8 rfl Try.underlying67 info3 rfl (by decide) (by omega) u14 x14_5 (rd x9_38 x15_5) [.int .i64 (rd x9_38 x15_5)] (fun k_ => some k_ ≠ (.slice (some ad834) x9_38.length co59 : Value).ownBlock) (fun _ => False) rfl rfl ?aP (fun _ hk => hk.elim) ?aF ?aO ?aB ?aS ?aL ?_; (case aP => exact rfl); (case aB => exact (by repeat (first | (with_reducible first | exact HB.out | apply below_alloc | apply pw_below_drewN | apply below_drew1 | refine below_set ?_ GE817.out) | exact HB.out))); (case aF => exact (fun k_ hk => Kd.fresh' (Kd.R_lt (by (with_reducible repeat (first | apply Kd.R_alloc | apply Kd.R_drewN | apply Kd.R_drew)); exact HO_9.out)) k_ hk)); (case aO => exact (by (with_reducible repeat (first | apply Kd.R_alloc | apply Kd.R_drewN | apply Kd.R_drew)); exact HO_14.out)); (case aS => exact (below_size (by repeat (first | (with_reducible first | exact HB.out | apply below_alloc | apply pw_below_drewN | apply below_drew1 | refine below_set ?_ GE817.out) | exact HB.out)))); (case aL => have := LMc58.out; omega); intro v836 w60 ho hb hg hat; rw [← Ny835.out] at ho; have n0_ := Aside0.mk (Kd.R_after (ok := (fun _ => True)) (by (with_reducible repeat (first | apply Kd.R_alloc | apply Kd.R_drewN | apply Kd.R_drew)); exact Kd.R_mono HO_9.out (fun _ hk => ⟨trivial, hk⟩)) hg hat); have n1_ := Aside0.mk (blk_grown (g := gb817) (o := .cells #[.int .i64 a0_0, .int .i64 a0_1, .int .i64 a0_2, .int .i64 a0_3, .int .i64 a0_4, .int .i64 a0_5, .int .i64 a0_6, .int .i64 a0_7, .int .i64 a0_8, .slice A0_9 l0_9.length c0_9] 66 (0, 0)) (by (with_reducible repeat (first | refine blk_drewN ?_ _ | refine blk_drew ?_ | refine blk_alloc ?_ _)); exact BK817.out) hg (Kd.R_ne HO_14.out BK817.out (by decide))); have n2_ := Aside0.mk (hb); have n3_ := Aside0.mk (ho); clear HO_9; clear BK817; clear HB; clear HO_14; have HO_9 := n0_; have BK817 := n1_; have HB := n2_; have HO837 := n3_; clear n0_ n1_ n2_ n3_; clear ho hb hg hat))
                go_roundg k5
                case measure => have := HJ3.out; have := HJ10.out; have := HJ26.out; have := HJ38.out; have := HK5.out; omega
                case rel => exact ⟨(y835), (wrap64 (x15_5 + 1)), (by first | rfl | (simp; done) | (simp [*]; done)), H', ⟨by have := HJ3.out; have := HJ10.out; have := HJ26.out; have := HJ38.out; have := HK5.out; omega⟩, ⟨by (with_reducible repeat (first | apply Kd.R_alloc | apply Kd.R_drewN | apply Kd.R_drew)); exact Kd.R_mono HO_9.out (fun _ hk => hk.2)⟩, ⟨by (with_reducible repeat (first | apply Kd.R_alloc | apply Kd.R_drewN | apply Kd.R_drew)); exact HO837.out⟩, ⟨by (with_reducible repeat (first | refine blk_drewN ?_ _ | refine blk_drew ?_ | refine blk_alloc ?_ _)); exact BK817.out⟩, ⟨by repeat (first | (with_reducible first | exact HB.out | apply below_alloc | apply pw_below_drewN | apply below_drew1 | refine below_set ?_ GE817.out) | exact HB.out)⟩⟩
               ·
                rw [if_neg c58] at H
                exact absurd H (by simp)
              ·
               rw [if_neg c57] at H
               exact absurd H (by simp)
            ·
             rw [if_neg c49] at H
             have c49b0 : decide (x15_5 < (x9_38.length : Int)) = false := decide_eq_false c49
             clear c49
             by_cases c61 : x14_5.length < 17592186044416
             ·
              rw [if_pos c61] at H
              have LMc61 := Aside0.mk c61;clear c61
              obtain ⟨y838, hy838⟩ : ∃ y_ : List Int, y_ = (x14_5 ++ [a0_1]) := ⟨_, rfl⟩
              replace H : (some (y838, 0)) = some (r1, r2) := by first | (rw [hy838]; with_reducible exact H) | (have H2_ := (Option.bind_some _ _).symm.trans H; rw [hy838]; with_reducible exact H2_) | (have H2_ := (Option.bind_some _ _).symm.trans H; with_reducible exact H2_) | with_reducible exact H | (rw [hy838]; exact H) | exact H
              have Ny838 := Aside0.mk hy838;clear hy838
              simp only [Option.some.injEq, Prod.mk.injEq] at H
              obtain ⟨rfl, rfl⟩ := H
              obtain ⟨Ao62, co62, eo62⟩ := Kd.R_slice HO_9.out
              subst eo62
              have hcz63_0 : wr.cell? ⟨gb817, 0, none⟩ = some (.int .i64 a0_0) := (blk_cell BK817.out 0).trans rfl
              have hcz63_1 : wr.cell? ⟨gb817, 1, none⟩ = some (.int .i64 a0_1) := (blk_cell BK817.out 1).trans rfl
              have hcz63_2 : wr.cell? ⟨gb817, 2, none⟩ = some (.int .i64 a0_2) := (blk_cell BK817.out 2).trans rfl
              have hcz63_3 : wr.cell? ⟨gb817, 3, none⟩ = some (.int .i64 a0_3) := (blk_cell BK817.out 3).trans rfl
              have hcz63_4 : wr.cell? ⟨gb817, 4, none⟩ = some (.int .i64 a0_4) := (blk_cell BK817.out 4).trans rfl
              have hcz63_5 : wr.cell? ⟨gb817, 5, none⟩ = some (.int .i64 a0_5) := (blk_cell BK817.out 5).trans rfl
              have hcz63_6 : wr.cell? ⟨gb817, 6, none⟩ = some (.int .i64 a0_6) := (blk_cell BK817.out 6).trans rfl
              have hcz63_7 : wr.cell? ⟨gb817, 7, none⟩ = some (.int .i64 a0_7) := (blk_cell BK817.out 7).trans rfl
              have hcz63_8 : wr.cell? ⟨gb817, 8, none⟩ = some (.int .i64 a0_8) := (blk_cell BK817.out 8).trans rfl
              have hcz63_9 : wr.cell? ⟨gb817, 9, none⟩ = some (.slice A0_9 l0_9.length c0_9) := (blk_cell BK817.out 9).trans rfl
              have hfz63_0 := blk_frozen BK817.out 0;have hfz63_1 := blk_frozen BK817.out 1;have hfz63_2 := blk_frozen BK817.out 2;have hfz63_3 := blk_frozen BK817.out 3;have hfz63_4 := blk_frozen BK817.out 4;have hfz63_5 := blk_frozen BK817.out 5;have hfz63_6 := blk_frozen BK817.out 6;have hfz63_7 := blk_frozen BK817.out 7;have hfz63_8 := blk_frozen BK817.out 8;have hfz63_9 := blk_frozen BK817.out 9
              go_wp2_with (first | ((with_reducible refine gate_builtin (b := .append) (xs := #[.tmp 127, .tmp 130]) rfl ?_); (try (refine gate_guard (by rfl) ?_; dsimp only)); at_builtin; refine Kd.R_append (Kd.int .i64) (w0 := w) w.heap.size rfl (.tmp 127) (.tmp 130) 67 3 (.int .i64 0) 8 rfl Try.underlying67 info3 rfl (by decide) (by omega) u14 x14_5 a0_1 [.int .i64 a0_1] (fun k_ => some k_ ≠ (.slice Ao62 x9_38.length co62 : Value).ownBlock) (fun _ => False) rfl rfl ?aP (fun _ hk => hk.elim) ?aF ?aO ?aB ?aS ?aL ?_; (case aP => exact rfl); (case aB => exact (by repeat (first | (with_reducible first | exact HB.out | apply below_alloc | apply pw_below_drewN | apply below_drew1 | refine below_set ?_ GE817.out) | exact HB.out))); (case aF => exact (fun k_ hk => Kd.fresh' (Kd.R_lt (by (with_reducible repeat (first | apply Kd.R_alloc | apply Kd.R_drewN | apply Kd.R_drew)); exact HO_9.out)) k_ hk)); (case aO => exact (by (with_reducible repeat (first | apply Kd.R_alloc | apply Kd.R_drewN | apply Kd.R_drew)); exact HO_14.out)); (case aS => exact (below_size (by repeat (first | (with_reducible first | exact HB.out | apply below_alloc | apply pw_below_drewN | apply below_drew1 | refine below_set ?_ GE817.out) | exact HB.out)))); (case aL => have := LMc61.out; omega); intro v839 w64 ho hb hg hat; rw [← Ny838.out] at ho; have n0_ := Aside0.mk (Kd.R_after (ok := (fun _ => True)) (by (with_reducible repeat (first | apply Kd.R_alloc | apply Kd.R_drewN | apply Kd.R_drew)); exact Kd.R_mono HO_9.out (fun _ hk => ⟨trivial, hk⟩)) hg hat); have n1_ := Aside0.mk (blk_grown (g := gb817) (o := .cells #[.int .i64 a0_0, .int .i64 a0_1, .int .i64 a0_2, .int .i64 a0_3, .int .i64 a0_4, .int .i64 a0_5, .int .i64 a0_6, .int .i64 a0_7, .int .i64 a0_8, .slice A0_9 l0_9.length c0_9] 66 (0, 0)) (by (with_reducible repeat (first | refine blk_drewN ?_ _ | refine blk_drew ?_ | refine blk_alloc ?_ _)); exact BK817.out) hg (Kd.R_ne HO_14.out BK817.out (by decide))); have n2_ := Aside0.mk (hb); have n3_ := Aside0.mk (ho); clear HO_9; clear BK817; clear HB; clear HO_14; have HO_9 := n0_; have BK817 := n1_; have HB := n2_; have HO840 := n3_; clear n0_ n1_ n2_ n3_; clear ho hb hg hat))
              go_ret2
              exact ⟨_, by first | rfl | (simp [errW_none, errW_some] <;> rfl) | (simp [*, errW_none, errW_some] <;> rfl), by (with_reducible repeat (first | apply Kd.R_alloc | apply Kd.R_drewN | apply Kd.R_drew)); exact Kd.R_mono HO840.out (fun _ hk => trivial), by repeat (first | (with_reducible first | exact HB.out | apply below_alloc | apply pw_below_drewN | apply below_drew1 | refine below_set ?_ GE817.out) | exact HB.out)⟩
             ·
              rw [if_neg c61] at H
              exact absurd H (by simp)
 ·
  rw [if_neg c3] at H
  have c3b0 : (t818 == 0) = false := beq_eq_false_iff_ne.mpr c3
  have c3b1 : (t818 != 0) = true := bne_iff_ne.mpr c3
  simp only [Option.some.injEq, Prod.mk.injEq] at H
  obtain ⟨rfl, rfl⟩ := H
  go_enter Try.func51, Try.ntmps51
  go_wp2_with (first | ((with_reducible refine gate_dst (N := 1) rfl ?_); (try (refine gate_guard (by rfl) ?_; dsimp only)); refine box_event ?hg (N := 1) ?hd (cs := #[.int .i64 a0_0, .int .i64 a0_1, .int .i64 a0_2, .int .i64 a0_3, .int .i64 a0_4, .int .i64 a0_5, .int .i64 a0_6, .int .i64 a0_7, .int .i64 a0_8, .slice A0_9 l0_9.length c0_9]) (t := 66) ?hr ?_; (case hd => rfl); (case hg => rfl); (case hr => first | (go_simp; done) | (go_simp; rfl)); intro gb817 hg w65 hbox hb; have n0_ := Aside0.mk (below_step (by repeat (first | (with_reducible first | exact HB.out | apply below_alloc | apply pw_below_drewN | apply below_drew1) | exact HB.out)) hb); have n1_ := Aside0.mk (hbox); have n2_ := Aside0.mk ((by rw [hg]; exact (below_size (by repeat (first | (with_reducible first | exact HB.out | apply below_alloc | apply pw_below_drewN | apply below_drew1) | exact HB.out))) : w.heap.size ≤ gb817)); have n3_ := Aside0.mk ((by rw [hg]; exact (below_size (by repeat (first | (with_reducible first | exact HB.out | apply below_alloc | apply pw_below_drewN | apply below_drew1) | exact HB.out))) : w.heap.size ≤ gb817)); clear HB; have HB := n0_; have BK817 := n1_; have GW817 := n2_; have GE817 := n3_; clear n0_ n1_ n2_ n3_; clear hb hbox hg; have hcz66_0 : w65.cell? ⟨gb817, 0, none⟩ = some (.int .i64 a0_0) := (blk_cell BK817.out 0).trans rfl; have hcz66_1 : w65.cell? ⟨gb817, 1, none⟩ = some (.int .i64 a0_1) := (blk_cell BK817.out 1).trans rfl; have hcz66_2 : w65.cell? ⟨gb817, 2, none⟩ = some (.int .i64 a0_2) := (blk_cell BK817.out 2).trans rfl; have hcz66_3 : w65.cell? ⟨gb817, 3, none⟩ = some (.int .i64 a0_3) := (blk_cell BK817.out 3).trans rfl; have hcz66_4 : w65.cell? ⟨gb817, 4, none⟩ = some (.int .i64 a0_4) := (blk_cell BK817.out 4).trans rfl; have hcz66_5 : w65.cell? ⟨gb817, 5, none⟩ = some (.int .i64 a0_5) := (blk_cell BK817.out 5).trans rfl; have hcz66_6 : w65.cell? ⟨gb817, 6, none⟩ = some (.int .i64 a0_6) := (blk_cell BK817.out 6).trans rfl; have hcz66_7 : w65.cell? ⟨gb817, 7, none⟩ = some (.int .i64 a0_7) := (blk_cell BK817.out 7).trans rfl; have hcz66_8 : w65.cell? ⟨gb817, 8, none⟩ = some (.int .i64 a0_8) := (blk_cell BK817.out 8).trans rfl; have hcz66_9 : w65.cell? ⟨gb817, 9, none⟩ = some (.slice A0_9 l0_9.length c0_9) := (blk_cell BK817.out 9).trans rfl; have hfz66_0 := blk_frozen BK817.out 0; have hfz66_1 := blk_frozen BK817.out 1; have hfz66_2 := blk_frozen BK817.out 2; have hfz66_3 := blk_frozen BK817.out 3; have hfz66_4 := blk_frozen BK817.out 4; have hfz66_5 := blk_frozen BK817.out 5; have hfz66_6 := blk_frozen BK817.out 6; have hfz66_7 := blk_frozen BK817.out 7; have hfz66_8 := blk_frozen BK817.out 8; have hfz66_9 := blk_frozen BK817.out 9) | ((with_reducible refine gate_callee (f := 58) rfl ?_); refine goesL_ (some 17) rfl rfl Try.func58 (by kernel_rfl) rfl #[.agg #[.int .i64 a0_0, .int .i64 a0_1, .int .i64 a0_2, .int .i64 a0_3, .int .i64 a0_4, .int .i64 a0_5, .int .i64 a0_6, .int .i64 a0_7, .int .i64 a0_8, .slice A0_9 l0_9.length c0_9]] rfl (by (try simp only [List.map_toArray, List.map_cons, List.map_nil]); first | done | rfl | (simp only [List.length_drop, List.length_take]; rfl)) ?_; (with_reducible refine (tenorref8_Check.calls k a0_0 a0_1 a0_2 a0_3 a0_4 a0_5 a0_6 a0_7 a0_8 _ _ l0_9 t818 _ ?side1 ?side2 A2.out).mono ?_); (case side1 => repeat (first | exact (Kd.C_below HR0_9.out HB.out) | (with_reducible refine Kd.C_alloc ?_ _) | (with_reducible refine Kd.C_drewN ?_ _) | (with_reducible refine Kd.C_drew ?_))); (case side2 => exact HC0_9.out); rintro e w67 ⟨rfl, hb⟩; refine ⟨_, rfl, ?_⟩; have n0_ := Aside0.mk (blk_below (g := gb817) (o := .cells #[.int .i64 a0_0, .int .i64 a0_1, .int .i64 a0_2, .int .i64 a0_3, .int .i64 a0_4, .int .i64 a0_5, .int .i64 a0_6, .int .i64 a0_7, .int .i64 a0_8, .slice A0_9 l0_9.length c0_9] 66 (0, 0)) (by (with_reducible repeat (first | refine blk_drewN ?_ _ | refine blk_drew ?_ | refine blk_alloc ?_ _)); exact BK817.out) hb); have n1_ := Aside0.mk (below_step (by repeat (first | (with_reducible first | exact HB.out | apply below_alloc | apply pw_below_drewN | apply below_drew1 | refine below_set ?_ GE817.out) | exact HB.out)) hb); clear BK817; clear HB; have BK817 := n0_; have HB := n1_; clear n0_ n1_; (try clear hb); (try clear hb2); (try clear hk); (try clear hi)))
  go_ret2
  exact ⟨_, by first | rfl | (simp [errW_none, errW_some] <;> rfl) | (simp [*, errW_none, errW_some] <;> rfl), by first | exact Kd.R_nil _ _ _ _ _ | exact Kd.N_nil _ _ _ _ _ | exact Kd.V_nil _ _ _ _ _ | exact Kd.Q_nil _ _ _ _ _ | exact Kd.S_nil _ _ _ _ _, by repeat (first | (with_reducible first | exact HB.out | apply below_alloc | apply pw_below_drewN | apply below_drew1 | refine below_set ?_ GE817.out) | exact HB.out)⟩
end Go.Proofs.Ytoncignjcgjhhaa.Q
