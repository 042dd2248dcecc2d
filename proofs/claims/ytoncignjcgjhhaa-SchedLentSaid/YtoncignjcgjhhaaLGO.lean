/- Contracts and facts of functions of the program (calendar, dates and their documents), joined in one text by a program of this session. No condition but what each theorem states. -/
import Derived.Test.YtoncignjcgjhhaaLGA
import Derived.Test.YtoncignjcgjhhaaLGN
import Derived.Test.YtoncignjcgjhhaaLGL
import Derived.Test.YtoncignjcgjhhaaLGH
set_option linter.unusedVariables false
set_option linter.unusedSimpArgs false
namespace Go.Proofs.Ytoncignjcgjhhaa.Q
open Go.RowKit Go.Proofs.YtoncignjcgjhhaaW.PrintWords Go.Proofs.YtoncignjcgjhhaaW.PrintLast Go.Proofs.YtoncignjcgjhhaaW.PrintMore
attribute [local go_sem] max2_int min2_int max_two min_two max_three min_three max_four min_four   -- for this text's walks alone
def tenorref8_Periods.l0 : Nat → List Int → List (S81) → Int → Int → Int → Int → Int → Int → Int → Int → Int → Int → List (S63) → Option ((List (S81)) × Int)
  | 0, _, _, _, _, _, _, _, _, _, _, _, _, _ => none
  | k + 1, x4, x6, x7, x855000, x855001, x855002, x855003, x855004, x855005, x855006, x855007, x855008, x855009 => if (wrap64 (x7 + 1)) < (x4.length : Int) then (if 0 ≤ x7 then (if x7 < (x4.length : Int) then (if 0 ≤ (wrap64 (x7 + 1)) then ((tenorref6_Adjust.f k x855008 x855009 (rd x4 x7) x855006).bind fun bt862 => (if bt862.2 = 0 then ((tenorref6_Adjust.f k x855008 x855009 (rd x4 (wrap64 (x7 + 1))) x855006).bind fun bt864 => (if bt864.2 = 0 then (if x855007 > 0 then ((tenorref6_Add.f k x855008 x855009 bt864.1 x855007).bind fun bt866 => (if bt866.2 = 0 then (if x6.length < 3518437208883 then (tenorref8_Periods.l0 k x4 (x6 ++ [(⟨rd x4 x7, rd x4 (wrap64 (x7 + 1)), bt862.1, bt864.1, bt866.1⟩ : S81)]) (wrap64 (x7 + 1)) x855000 x855001 x855002 x855003 x855004 x855005 x855006 x855007 x855008 x855009) else (none)) else (some (([] : List (S81)), bt866.2)))) else (if x6.length < 3518437208883 then (tenorref8_Periods.l0 k x4 (x6 ++ [(⟨rd x4 x7, rd x4 (wrap64 (x7 + 1)), bt862.1, bt864.1, bt864.1⟩ : S81)]) (wrap64 (x7 + 1)) x855000 x855001 x855002 x855003 x855004 x855005 x855006 x855007 x855008 x855009) else (none))) else (some (([] : List (S81)), bt864.2)))) else (some (([] : List (S81)), bt862.2)))) else (none)) else (none)) else (none)) else (some (x6, 0))
def tenorref8_Periods.f (k : Nat) (a0_0 a0_1 a0_2 a0_3 a0_4 a0_5 a0_6 a0_7 a0_8 : Int) (l0_9 : List (S63)) : Option ((List (S81)) × Int) := (tenorref8_Dates.f k a0_0 a0_1 a0_2 a0_3 a0_4 a0_5 a0_6 a0_7 a0_8 l0_9).bind fun bt855 => (if bt855.2 = 0 then (tenorref8_Periods.l0 k bt855.1 ([] : List (S81)) 0 a0_0 a0_1 a0_2 a0_3 a0_4 a0_5 a0_6 a0_7 a0_8 l0_9) else (some (([] : List (S81)), bt855.2)))
def tenorref8_Periods.T8 : Bool × List (List Nat × List Nat) := (true, [([], []), ([], []), ([0, 1], [0, 1]), ([2], [2]), ([], []), ([], []), ([5], [5]), ([4, 6], [4, 6]), ([7], [7]), ([3, 8], [3, 8]), ([], []), ([10, 9, 0, 1, 2, 3, 4, 5, 6, 7, 8, 9, 10], [9, 10])])
def tenorref8_Periods.B8 : List Nat := [0, 0, 3, 7, 0, 0, 32, 112, 240, 511, 0, 2047]
theorem tenorref8_Periods.tab8 : rtab .any (opsOf Try.f55 8) = tenorref8_Periods.T8 := by kernel_rfl
theorem tenorref8_Periods.bits8 : waitsOk tenorref8_Periods.T8.2 tenorref8_Periods.B8 = true := by kernel_rfl
set_option maxHeartbeats 8000000 in
set_option maxRecDepth 100000 in
theorem tenorref8_Periods.calls (k : Nat) (a0_0 a0_1 a0_2 a0_3 a0_4 a0_5 a0_6 a0_7 a0_8 : Int) (A0_9 : Option Addr) (c0_9 : Nat) (l0_9 : List (S63)) (r1 : List (S81)) (r2 : Int) (w : World) (hr0_9 : Kd.C k63 w A0_9 l0_9.length l0_9) (hc0_9 : l0_9.length ≤ c0_9) (h : tenorref8_Periods.f k a0_0 a0_1 a0_2 a0_3 a0_4 a0_5 a0_6 a0_7 a0_8 l0_9 = some (r1, r2)) :
  Calls Try.prog 55 #[.agg #[.int .i64 a0_0, .int .i64 a0_1, .int .i64 a0_2, .int .i64 a0_3, .int .i64 a0_4, .int .i64 a0_5, .int .i64 a0_6, .int .i64 a0_7, .int .i64 a0_8, .slice A0_9 l0_9.length c0_9]] w fun e w' => ∃ v0_ : Value, e = .returned (.tuple #[v0_, .int .i64 r2]) ∧ Kd.R k81 81 w' w.heap.size (fun _ => True) v0_ r1 ∧ Below w.heap.size w w' := by
 have hu66 := Try.underlying66;have hu81 := Try.underlying81;have hu24 := Try.underlying24;have HR0_9 := Aside0.mk hr0_9;have HC0_9 := Aside0.mk hc0_9;clear hr0_9 hc0_9
 have HB := Aside0.mk (Below.refl w.heap.size w)
 have H : ((tenorref8_Dates.f k a0_0 a0_1 a0_2 a0_3 a0_4 a0_5 a0_6 a0_7 a0_8 l0_9).bind fun bt855 => (if bt855.2 = 0 then (tenorref8_Periods.l0 k bt855.1 ([] : List (S81)) 0 a0_0 a0_1 a0_2 a0_3 a0_4 a0_5 a0_6 a0_7 a0_8 l0_9) else (some (([] : List (S81)), bt855.2)))) = some (r1, r2) := h
 clear h;replace H := Option.bind_eq_some_iff.mp H
 obtain ⟨⟨t855, t858⟩, A20, H⟩ := H
 replace H : (if t858 = 0 then (tenorref8_Periods.l0 k t855 ([] : List (S81)) 0 a0_0 a0_1 a0_2 a0_3 a0_4 a0_5 a0_6 a0_7 a0_8 l0_9) else (some (([] : List (S81)), t858))) = some (r1, r2) := H
 have A2 := Aside0.mk A20;clear A20
 by_cases c3 : t858 = 0
 ·
  rw [if_pos c3] at H
  have c3b0 : (t858 == 0) = true := beq_iff_eq.mpr c3
  have c3b1 : (t858 != 0) = false := bne_eq_false_iff_eq.mpr c3
  clear c3;have H' := Aside0.mk H;clear H
  go_enter Try.func55, Try.ntmps55
  go_wp2_with (first | ((with_reducible refine gate_dst (N := 1) rfl ?_); refine box_event ?hg (N := 1) ?hd (cs := #[.int .i64 a0_0, .int .i64 a0_1, .int .i64 a0_2, .int .i64 a0_3, .int .i64 a0_4, .int .i64 a0_5, .int .i64 a0_6, .int .i64 a0_7, .int .i64 a0_8, .slice A0_9 l0_9.length c0_9]) (t := 66) ?hr ?_; (case hd => rfl); (case hg => rfl); (case hr => first | (go_simp; done) | (go_simp; rfl)); intro gb854 hg w4 hbox hb; have BK854 := Aside0.mk (hbox); have GW854 := bG hg; have GE854 := bG hg; replace HB := bS hb; clear hb hbox hg; obtain ⟨_,_,_,_,_,_,_,_,_,_,_,_,_,_,_,_,_,_,_,_⟩ := blk10 BK854) | ((with_reducible refine gG 51 ?_); refine goA (some 17) Try.func51 #[.agg #[.int .i64 a0_0, .int .i64 a0_1, .int .i64 a0_2, .int .i64 a0_3, .int .i64 a0_4, .int .i64 a0_5, .int .i64 a0_6, .int .i64 a0_7, .int .i64 a0_8, .slice A0_9 l0_9.length c0_9]] ?_; (with_reducible refine (tenorref8_Dates.calls k a0_0 a0_1 a0_2 a0_3 a0_4 a0_5 a0_6 a0_7 a0_8 _ _ l0_9 t855 t858 _ ?side1 ?side2 A2.out).mono ?_); (case side1 => exact sC HR0_9); (case side2 => exact HC0_9.out); rintro e w6 ⟨v856, rfl, ho0, hb⟩; refine ⟨_, rfl, ?_⟩; have HO857 := Aside0.mk (Kd.R_lower ho0 (below_size bB)); replace BK854 := bK BK854 hb; replace HB := bS hb; (try clear hb); (try clear hb2); (try clear hk); (try clear hi); (try clear ho0)))
  go_loopg [6, 7] k (fun kq v6 v7 w' => ∃ (x6_1 : List (S81)) (x7_1 : Int), v7 = .int .i64 x7_1 ∧ Aside0 (tenorref8_Periods.l0 kq t855 x6_1 x7_1 a0_0 a0_1 a0_2 a0_3 a0_4 a0_5 a0_6 a0_7 a0_8 l0_9 = some (r1, r2)) ∧ Aside0 (kq ≤ k) ∧ Aside0 (Kd.R (Kd.int .i64) 3 w' w.heap.size (fun _ => True) v856 t855) ∧ Aside0 (Kd.R k81 81 w' w.heap.size (fun _ => True) v6 x6_1) ∧ Aside0 (w'.heap[gb854]? = some (.cells #[.int .i64 a0_0, .int .i64 a0_1, .int .i64 a0_2, .int .i64 a0_3, .int .i64 a0_4, .int .i64 a0_5, .int .i64 a0_6, .int .i64 a0_7, .int .i64 a0_8, (.slice A0_9 l0_9.length c0_9)] 66 (0, 0))) ∧ Aside0 (Below w.heap.size w w'))
  case atStart => exact ⟨(([] : List (S81))), (0), eS, H', ⟨Nat.le_refl _⟩, ⟨(bR HO857)⟩, ⟨by first | exact Kd.R_nil _ _ _ _ _ | exact Kd.N_nil _ _ _ _ _ | exact Kd.V_nil _ _ _ _ _ | exact Kd.Q_nil _ _ _ _ _ | exact Kd.S_nil _ _ _ _ _⟩, ⟨(bk BK854)⟩, ⟨bB⟩⟩
  case round =>
   clear H'
   obtain ⟨x6_1, x7_1, rfl, HA, HK1, HO_4, HO_6, BK854, HB⟩ := hrel
   cases gk with
   | zero => exact absurd HA.out (by simp [tenorref8_Periods.l0])
   | succ k1 =>
    have H := HA.out;clear HA
    simp only [tenorref8_Periods.l0] at H
    by_cases c7 : (wrap64 (x7_1 + 1)) < (t855.length : Int)
    ·
     rw [if_pos c7] at H
     have c7b0 : decide ((wrap64 (x7_1 + 1)) < (t855.length : Int)) = true := decide_eq_true c7
     clear c7
     by_cases c8 : 0 ≤ x7_1
     ·
      rw [if_pos c8] at H
      have c8b0 : decide (0 ≤ x7_1) = true := decide_eq_true c8
      clear c8
      by_cases c9 : x7_1 < (t855.length : Int)
      ·
       rw [if_pos c9] at H
       have c9b0 : decide (x7_1 < (t855.length : Int)) = true := decide_eq_true c9
       clear c9
       obtain ⟨ji10, hji10⟩ : ∃ j_ : Int, (wrap64 (x7_1 + 1)) = j_ := ⟨_, rfl⟩
       replace H : (if 0 ≤ (ji10) then ((tenorref6_Adjust.f k1 a0_8 l0_9 (rd t855 x7_1) a0_6).bind fun bt862 => (if bt862.2 = 0 then ((tenorref6_Adjust.f k1 a0_8 l0_9 (rd t855 (ji10)) a0_6).bind fun bt864 => (if bt864.2 = 0 then (if a0_7 > 0 then ((tenorref6_Add.f k1 a0_8 l0_9 bt864.1 a0_7).bind fun bt866 => (if bt866.2 = 0 then (if x6_1.length < 3518437208883 then (tenorref8_Periods.l0 k1 t855 (x6_1 ++ [(⟨rd t855 x7_1, rd t855 (ji10), bt862.1, bt864.1, bt866.1⟩ : S81)]) ji10 a0_0 a0_1 a0_2 a0_3 a0_4 a0_5 a0_6 a0_7 a0_8 l0_9) else (none)) else (some (([] : List (S81)), bt866.2)))) else (if x6_1.length < 3518437208883 then (tenorref8_Periods.l0 k1 t855 (x6_1 ++ [(⟨rd t855 x7_1, rd t855 (ji10), bt862.1, bt864.1, bt864.1⟩ : S81)]) ji10 a0_0 a0_1 a0_2 a0_3 a0_4 a0_5 a0_6 a0_7 a0_8 l0_9) else (none))) else (some (([] : List (S81)), bt864.2)))) else (some (([] : List (S81)), bt862.2)))) else (none)) = some (r1, r2) := by first | (rw [hji10] at H; exact H) | (simp only [hji10] at H ⊢; exact H)
       (try rw [hji10] at c7b0)
       have hji10w : (IntKind.i64.wrap (x7_1 + 1)) = ji10 := (i64_w _).trans hji10
       by_cases c11 : 0 ≤ (ji10)
       ·
        rw [if_pos c11] at H
        have c11b0 : decide (0 ≤ (ji10)) = true := decide_eq_true c11
        clear c11;replace H := Option.bind_eq_some_iff.mp H
        obtain ⟨⟨t862, t863⟩, A120, H⟩ := H
        replace H : (if t863 = 0 then ((tenorref6_Adjust.f k1 a0_8 l0_9 (rd t855 (ji10)) a0_6).bind fun bt864 => (if bt864.2 = 0 then (if a0_7 > 0 then ((tenorref6_Add.f k1 a0_8 l0_9 bt864.1 a0_7).bind fun bt866 => (if bt866.2 = 0 then (if x6_1.length < 3518437208883 then (tenorref8_Periods.l0 k1 t855 (x6_1 ++ [(⟨rd t855 x7_1, rd t855 (ji10), t862, bt864.1, bt866.1⟩ : S81)]) ji10 a0_0 a0_1 a0_2 a0_3 a0_4 a0_5 a0_6 a0_7 a0_8 l0_9) else (none)) else (some (([] : List (S81)), bt866.2)))) else (if x6_1.length < 3518437208883 then (tenorref8_Periods.l0 k1 t855 (x6_1 ++ [(⟨rd t855 x7_1, rd t855 (ji10), t862, bt864.1, bt864.1⟩ : S81)]) ji10 a0_0 a0_1 a0_2 a0_3 a0_4 a0_5 a0_6 a0_7 a0_8 l0_9) else (none))) else (some (([] : List (S81)), bt864.2)))) else (some (([] : List (S81)), t863))) = some (r1, r2) := H
        have A12 := Aside0.mk A120;clear A120;have HH_ := Aside0.mk H;clear H
        obtain ⟨Ao20, co20, eo20⟩ := Kd.R_slice HO_4.out
        subst eo20
        try go_wp2
        replace HO_4 := Aside0.mk (Kd.R_drew HO_4.out)
        replace HO_6 := Aside0.mk (Kd.R_drew HO_6.out)
        replace BK854 := Aside0.mk (blk_drew BK854.out)
        replace HB := Aside0.mk (below_drew1 HB.out)
        have p859 : 0 ≤ (x7_1 : Int) := of_decide_eq_true tA
        have q859 : x7_1 < (t855.length : Int) := of_decide_eq_true tA
        obtain ⟨ad859, e859, hx859_0⟩ := Kd.at_int (Kd.R_reads' HO_4.out).2.2 x7_1 p859 q859
        cases e859
        replace p859 := eq_true p859;replace q859 := eq_true q859
        have p860 : 0 ≤ ((ji10) : Int) := of_decide_eq_true tA
        have q860 : (ji10) < (t855.length : Int) := of_decide_eq_true tA
        obtain ⟨ad860, e860, hx860_0⟩ := Kd.at_int (Kd.R_reads' HO_4.out).2.2 (ji10) p860 q860
        obtain rfl : ad859 = ad860 := (by injection e860)
        replace p860 := eq_true p860;replace q860 := eq_true q860
        refine start_ (n := 12) (S := fun w' => w'.cell? (ad859.add (x7_1).toNat) = some (.int .i64 (rd t855 x7_1)) ∧ w'.cell? (ad859.add ((ji10)).toNat) = some (.int .i64 (rd t855 (ji10)))) (ds := []) #[false, false, false, false, false, false, false, false, false, false, false, false] (by kernel_rfl) rfl rfl ⟨hx859_0, hx860_0⟩ (fun hHeld => ?_); refine with_tabW tenorref8_Periods.tab8 tenorref8_Periods.bits8 (fun HT_ HW_ => ?_)
        generalize wr.drew = w21 at HO_4 HO_6 BK854 HB hx859_0 hx860_0 hHeld ⊢
        refine pure_ (i := 0) (N := some 30) (v := ?_) (a' := ?_) #[true, false, false, false, false, false, false, false, false, false, false, false] rfl rfl (any_of HT_.out (by kernel_rfl)) (fun _ _ _ h => h) (Or.inl ⟨by rfl, ?_⟩) ?_ ?_
        rotate_left
        ·
         intro w'
         go_simp
         with_reducible rfl
        rotate_left
        ·
         simp only [Act.put, List.setIfInBounds_toArray, List.set_cons_zero, List.set_cons_succ, i64_w, i32_w]
         rfl
        refine pure_ (i := 1) (N := some 31) (v := ?_) (a' := ?_) #[true, true, false, false, false, false, false, false, false, false, false, false] rfl rfl (any_of HT_.out (by kernel_rfl)) (fun _ _ _ h => h) (Or.inl ⟨by rfl, ?_⟩) ?_ ?_
        rotate_left
        ·
         intro w'
         go_simp
         with_reducible rfl
        rotate_left
        ·
         simp only [Act.put, List.setIfInBounds_toArray, List.set_cons_zero, List.set_cons_succ, i64_w, i32_w]
         rfl
        refine pure_ (i := 2) (N := some 32) (v := ?_) (a' := ?_) #[true, true, true, false, false, false, false, false, false, false, false, false] rfl rfl (any_of HT_.out (by kernel_rfl)) (fun _ _ _ h => h) (Or.inl ⟨by rfl, ?_⟩) ?_ ?_
        rotate_left
        ·
         intro w'
         go_simp
         with_reducible rfl
        rotate_left
        ·
         simp only [Act.put, List.setIfInBounds_toArray, List.set_cons_zero, List.set_cons_succ, i64_w, i32_w]
         rfl
        refine pure_ (i := 4) (N := some 34) (v := ?_) (a' := ?_) #[true, true, true, false, true, false, false, false, false, false, false, false] rfl rfl (any_of HT_.out (by kernel_rfl)) (fun _ _ _ h => h) (Or.inl ⟨by rfl, ?_⟩) ?_ ?_
        rotate_left
        ·
         intro w'
         go_simp
         with_reducible rfl
        rotate_left
        ·
         simp only [Act.put, List.setIfInBounds_toArray, List.set_cons_zero, List.set_cons_succ, i64_w, i32_w]
         rfl
        refine pure_ (i := 5) (N := some 35) (v := ?_) (a' := ?_) #[true, true, true, false, true, true, false, false, false, false, false, false] rfl rfl (any_of HT_.out (by kernel_rfl)) (fun _ _ _ h => h) (Or.inl ⟨by rfl, ?_⟩) ?_ ?_
        rotate_left
        ·
         intro w'
         go_simp
         with_reducible rfl
        rotate_left
        ·
         simp only [Act.put, List.setIfInBounds_toArray, List.set_cons_zero, List.set_cons_succ, i64_w, i32_w]
         rfl
        refine pure_ (i := 6) (N := some 36) (v := ?_) (a' := ?_) #[true, true, true, false, true, true, true, false, false, false, false, false] rfl rfl (any_of HT_.out (by kernel_rfl)) (fun _ _ _ h => h) (Or.inl ⟨by rfl, ?_⟩) ?_ ?_
        rotate_left
        ·
         intro w'
         go_simp
         with_reducible rfl
        rotate_left
        ·
         simp only [Act.put, List.setIfInBounds_toArray, List.set_cons_zero, List.set_cons_succ, i64_w, i32_w]
         rfl
        refine pure_ (i := 7) (N := some 37) (v := ?_) (a' := ?_) #[true, true, true, false, true, true, true, true, false, false, false, false] rfl rfl (any_of HT_.out (by kernel_rfl)) (fun _ _ _ h => h) (Or.inl ⟨by rfl, ?_⟩) ?_ ?_
        rotate_left
        ·
         intro w'
         go_simp
         with_reducible rfl
        rotate_left
        ·
         simp only [Act.put, List.setIfInBounds_toArray, List.set_cons_zero, List.set_cons_succ, i64_w, i32_w]
         rfl
        refine take_ (i := 3) (N := some 33) (v := ?_) (a' := ?_) #[true, true, true, true, true, true, true, true, false, false, false, false] rfl rfl (take_ofW HT_.out HW_.out (by kernel_rfl)) (fun _ _ _ h => h) (Or.inl ⟨by rfl, ?_⟩) hHeld ?_ ?_
        rotate_left
        ·
         rintro w' ⟨s0, s1⟩
         go_simp
         with_reducible rfl
        rotate_left
        ·
         simp only [Act.put, List.setIfInBounds_toArray, List.set_cons_zero, List.set_cons_succ, i64_w, i32_w]
         rfl
        refine take_ (i := 8) (N := some 38) (v := ?_) (a' := ?_) #[true, true, true, true, true, true, true, true, true, false, false, false] rfl rfl (take_ofW HT_.out HW_.out (by kernel_rfl)) (fun _ _ _ h => h) (Or.inl ⟨by rfl, ?_⟩) hHeld ?_ ?_
        rotate_left
        ·
         rintro w' ⟨s0, s1⟩
         go_simp
         with_reducible rfl
        rotate_left
        ·
         simp only [Act.put, List.setIfInBounds_toArray, List.set_cons_zero, List.set_cons_succ, i64_w, i32_w]
         rfl
        refine pure_ (i := 9) (N := some 39) (v := ?_) (a' := ?_) #[true, true, true, true, true, true, true, true, true, true, false, false] rfl rfl (any_of HT_.out (by kernel_rfl)) (fun _ _ _ h => h) (Or.inl ⟨by rfl, ?_⟩) ?_ ?_
        rotate_left
        ·
         intro w'
         go_simp
         with_reducible rfl
        rotate_left
        ·
         simp only [Act.put, List.setIfInBounds_toArray, List.set_cons_zero, List.set_cons_succ, i64_w, i32_w]
         rfl
        refine one_ (i := 10) (N := some 8) #[true, true, true, true, true, true, true, true, true, true, true, false] rfl rfl (one_of HT_.out (by kernel_rfl)) (by decide) (fun K hK => ?_)
        refine box_step ?hg (N := 8) ?hd (cs := #[.int .i64 0, .int .i64 0, .int .i64 0, .int .i64 0, .int .i64 0]) (t := 81) ?hr ?_; (case hd => rfl); (case hg => rfl); (case hr => first | (go_simp; done) | (go_simp; rfl))
        intro gb861 hg w22 hbox hb
        have HS0_ := (hb.cell (World.block_lt_of_cell? _ _ (hHeld.1))).trans (hHeld.1)
        have HS1_ := (hb.cell (World.block_lt_of_cell? _ _ (hHeld.2))).trans (hHeld.2)
        replace HO_4 := Aside0.mk (Kd.R_below (bR HO_4) hb)
        replace HO_6 := Aside0.mk (Kd.R_below (Kd.R_elderB (bR HO_6) gb861 (Nat.le_of_eq hg.symm)) hb)
        have BK861 := Aside0.mk (hbox)
        have GW861 := bG hg
        have GE861 := bG hg
        replace HB := bS hb
        have NB854_861 := Aside0.mk ((by rw [hg]; exact Nat.ne_of_lt (blk_lt (g := gb854) (o := .cells #[.int .i64 a0_0, .int .i64 a0_1, .int .i64 a0_2, .int .i64 a0_3, .int .i64 a0_4, .int .i64 a0_5, .int .i64 a0_6, .int .i64 a0_7, .int .i64 a0_8, .slice A0_9 l0_9.length c0_9] 66 (0, 0)) (bk BK854)) : gb854 ≠ gb861))
        have NB861_854 := Aside0.mk ((by rw [hg]; exact Nat.ne_of_gt (blk_lt (g := gb854) (o := .cells #[.int .i64 a0_0, .int .i64 a0_1, .int .i64 a0_2, .int .i64 a0_3, .int .i64 a0_4, .int .i64 a0_5, .int .i64 a0_6, .int .i64 a0_7, .int .i64 a0_8, .slice A0_9 l0_9.length c0_9] 66 (0, 0)) (bk BK854)) : gb861 ≠ gb854))
        replace BK854 := bK BK854 hb
        clear hb hbox hg
        refine hK.out _ _ ⟨HS0_, HS1_⟩ (fun hHeld => ?_)
        clear hK K
        refine norm_ (a' := ?_) ?_ ?_
        rotate_left
        ·
         show Act.put _ (some 8) _ = _
         simp only [Act.put, List.setIfInBounds_toArray, List.set_cons_zero, List.set_cons_succ, i64_w, i32_w]
         rfl
        refine one_ (i := 11) (N := none) #[true, true, true, true, true, true, true, true, true, true, true, true] rfl rfl (one_of HT_.out (by kernel_rfl)) (by decide) (fun K hK => ?_)
        have hs23 : w22.cell? ⟨gb861, 0, none⟩ = some (.int .i64 0) := (blk_cell BK861.out 0).trans rfl
        have hfs23 := blk_frozen BK861.out 0;have hns23_0 := NB854_861.out;have hms23_0 := NB861_854.out
        have hs24 : w22.cell? ⟨gb861, 1, none⟩ = some (.int .i64 0) := (blk_cell BK861.out 1).trans rfl
        have hfs24 := blk_frozen BK861.out 1;have hns24_0 := NB854_861.out;have hms24_0 := NB861_854.out
        have hs25 : w22.cell? ⟨gb861, 2, none⟩ = some (.int .i64 0) := (blk_cell BK861.out 2).trans rfl
        have hfs25 := blk_frozen BK861.out 2;have hns25_0 := NB854_861.out;have hms25_0 := NB861_854.out
        have hs26 : w22.cell? ⟨gb861, 3, none⟩ = some (.int .i64 0) := (blk_cell BK861.out 3).trans rfl
        have hfs26 := blk_frozen BK861.out 3;have hns26_0 := NB854_861.out;have hms26_0 := NB861_854.out
        have hs27 : w22.cell? ⟨gb861, 4, none⟩ = some (.int .i64 0) := (blk_cell BK861.out 4).trans rfl
        have hfs27 := blk_frozen BK861.out 4;have hns27_0 := NB854_861.out;have hms27_0 := NB861_854.out
        refine skip_ (w1 := ?_) (by rfl) rfl ?_ ?_
        rotate_left
        ·
         go_simp
         rfl
        refine hK.out _ _ ⟨((cell_far (p := ⟨gb861, _, none⟩) (by first | exact Kd.own_blk (Kd.R_ne HO_4.out BK861.out (by decide)) | (rw [add_block]; exact Kd.own_blk (Kd.R_ne HO_4.out BK861.out (by decide))) | (show (Addr.add _ _).block ≠ _; rw [add_block]; exact Kd.own_blk (Kd.R_ne HO_4.out BK861.out (by decide))) | (dsimp only; exact Kd.own_blk (Kd.R_ne HO_4.out BK861.out (by decide)))) _).trans (((cell_far (p := ⟨gb861, _, none⟩) (by first | exact Kd.own_blk (Kd.R_ne HO_4.out BK861.out (by decide)) | (rw [add_block]; exact Kd.own_blk (Kd.R_ne HO_4.out BK861.out (by decide))) | (show (Addr.add _ _).block ≠ _; rw [add_block]; exact Kd.own_blk (Kd.R_ne HO_4.out BK861.out (by decide))) | (dsimp only; exact Kd.own_blk (Kd.R_ne HO_4.out BK861.out (by decide)))) _).trans (((cell_far (p := ⟨gb861, _, none⟩) (by first | exact Kd.own_blk (Kd.R_ne HO_4.out BK861.out (by decide)) | (rw [add_block]; exact Kd.own_blk (Kd.R_ne HO_4.out BK861.out (by decide))) | (show (Addr.add _ _).block ≠ _; rw [add_block]; exact Kd.own_blk (Kd.R_ne HO_4.out BK861.out (by decide))) | (dsimp only; exact Kd.own_blk (Kd.R_ne HO_4.out BK861.out (by decide)))) _).trans (((cell_far (p := ⟨gb861, _, none⟩) (by first | exact Kd.own_blk (Kd.R_ne HO_4.out BK861.out (by decide)) | (rw [add_block]; exact Kd.own_blk (Kd.R_ne HO_4.out BK861.out (by decide))) | (show (Addr.add _ _).block ≠ _; rw [add_block]; exact Kd.own_blk (Kd.R_ne HO_4.out BK861.out (by decide))) | (dsimp only; exact Kd.own_blk (Kd.R_ne HO_4.out BK861.out (by decide)))) _).trans (((cell_far (p := ⟨gb861, _, none⟩) (by first | exact Kd.own_blk (Kd.R_ne HO_4.out BK861.out (by decide)) | (rw [add_block]; exact Kd.own_blk (Kd.R_ne HO_4.out BK861.out (by decide))) | (show (Addr.add _ _).block ≠ _; rw [add_block]; exact Kd.own_blk (Kd.R_ne HO_4.out BK861.out (by decide))) | (dsimp only; exact Kd.own_blk (Kd.R_ne HO_4.out BK861.out (by decide)))) _).trans (hHeld.1)))))))))), ((cell_far (p := ⟨gb861, _, none⟩) (by first | exact Kd.own_blk (Kd.R_ne HO_4.out BK861.out (by decide)) | (rw [add_block]; exact Kd.own_blk (Kd.R_ne HO_4.out BK861.out (by decide))) | (show (Addr.add _ _).block ≠ _; rw [add_block]; exact Kd.own_blk (Kd.R_ne HO_4.out BK861.out (by decide))) | (dsimp only; exact Kd.own_blk (Kd.R_ne HO_4.out BK861.out (by decide)))) _).trans (((cell_far (p := ⟨gb861, _, none⟩) (by first | exact Kd.own_blk (Kd.R_ne HO_4.out BK861.out (by decide)) | (rw [add_block]; exact Kd.own_blk (Kd.R_ne HO_4.out BK861.out (by decide))) | (show (Addr.add _ _).block ≠ _; rw [add_block]; exact Kd.own_blk (Kd.R_ne HO_4.out BK861.out (by decide))) | (dsimp only; exact Kd.own_blk (Kd.R_ne HO_4.out BK861.out (by decide)))) _).trans (((cell_far (p := ⟨gb861, _, none⟩) (by first | exact Kd.own_blk (Kd.R_ne HO_4.out BK861.out (by decide)) | (rw [add_block]; exact Kd.own_blk (Kd.R_ne HO_4.out BK861.out (by decide))) | (show (Addr.add _ _).block ≠ _; rw [add_block]; exact Kd.own_blk (Kd.R_ne HO_4.out BK861.out (by decide))) | (dsimp only; exact Kd.own_blk (Kd.R_ne HO_4.out BK861.out (by decide)))) _).trans (((cell_far (p := ⟨gb861, _, none⟩) (by first | exact Kd.own_blk (Kd.R_ne HO_4.out BK861.out (by decide)) | (rw [add_block]; exact Kd.own_blk (Kd.R_ne HO_4.out BK861.out (by decide))) | (show (Addr.add _ _).block ≠ _; rw [add_block]; exact Kd.own_blk (Kd.R_ne HO_4.out BK861.out (by decide))) | (dsimp only; exact Kd.own_blk (Kd.R_ne HO_4.out BK861.out (by decide)))) _).trans (((cell_far (p := ⟨gb861, _, none⟩) (by first | exact Kd.own_blk (Kd.R_ne HO_4.out BK861.out (by decide)) | (rw [add_block]; exact Kd.own_blk (Kd.R_ne HO_4.out BK861.out (by decide))) | (show (Addr.add _ _).block ≠ _; rw [add_block]; exact Kd.own_blk (Kd.R_ne HO_4.out BK861.out (by decide))) | (dsimp only; exact Kd.own_blk (Kd.R_ne HO_4.out BK861.out (by decide)))) _).trans (hHeld.2))))))))))⟩ (fun hHeld => ?_)
        clear hK K
        refine done_ (done_of HT_.out (by kernel_rfl)) ?_
        have hnb28 := NB854_861.out;have hnc28 := NB861_854.out
        obtain ⟨_,_,_,_,_,_,_,_,_,_,_,_,_,_,_,_,_,_,_,_⟩ := blk10 BK854
        obtain ⟨_,_,_,_,_,_,_,_,_,_⟩ := blk5 BK861;have H := HH_.out;clear HH_
        by_cases c13 : t863 = 0
        ·
         rw [if_pos c13] at H
         have c13b0 : (t863 == 0) = true := beq_iff_eq.mpr c13
         have c13b1 : (t863 != 0) = false := bne_eq_false_iff_eq.mpr c13
         clear c13;replace H := Option.bind_eq_some_iff.mp H
         obtain ⟨⟨t864, t865⟩, A140, H⟩ := H
         replace H : (if t865 = 0 then (if a0_7 > 0 then ((tenorref6_Add.f k1 a0_8 l0_9 t864 a0_7).bind fun bt866 => (if bt866.2 = 0 then (if x6_1.length < 3518437208883 then (tenorref8_Periods.l0 k1 t855 (x6_1 ++ [(⟨rd t855 x7_1, rd t855 (ji10), t862, t864, bt866.1⟩ : S81)]) ji10 a0_0 a0_1 a0_2 a0_3 a0_4 a0_5 a0_6 a0_7 a0_8 l0_9) else (none)) else (some (([] : List (S81)), bt866.2)))) else (if x6_1.length < 3518437208883 then (tenorref8_Periods.l0 k1 t855 (x6_1 ++ [(⟨rd t855 x7_1, rd t855 (ji10), t862, t864, t864⟩ : S81)]) ji10 a0_0 a0_1 a0_2 a0_3 a0_4 a0_5 a0_6 a0_7 a0_8 l0_9) else (none))) else (some (([] : List (S81)), t865))) = some (r1, r2) := H
         have A14 := Aside0.mk A140;clear A140
         by_cases c15 : t865 = 0
         ·
          rw [if_pos c15] at H
          have c15b0 : (t865 == 0) = true := beq_iff_eq.mpr c15
          have c15b1 : (t865 != 0) = false := bne_eq_false_iff_eq.mpr c15
          clear c15
          by_cases c16 : a0_7 > 0
          ·
           rw [if_pos c16] at H
           have c16b0 : decide (0 < a0_7) = true := decide_eq_true c16
           clear c16;replace H := Option.bind_eq_some_iff.mp H
           obtain ⟨⟨t866, t867⟩, A170, H⟩ := H
           replace H : (if t867 = 0 then (if x6_1.length < 3518437208883 then (tenorref8_Periods.l0 k1 t855 (x6_1 ++ [(⟨rd t855 x7_1, rd t855 (ji10), t862, t864, t866⟩ : S81)]) ji10 a0_0 a0_1 a0_2 a0_3 a0_4 a0_5 a0_6 a0_7 a0_8 l0_9) else (none)) else (some (([] : List (S81)), t867))) = some (r1, r2) := H
           have A17 := Aside0.mk A170;clear A170
           by_cases c18 : t867 = 0
           ·
            rw [if_pos c18] at H
            have c18b0 : (t867 == 0) = true := beq_iff_eq.mpr c18
            have c18b1 : (t867 != 0) = false := bne_eq_false_iff_eq.mpr c18
            clear c18
            by_cases c19 : x6_1.length < 3518437208883
            ·
             rw [if_pos c19] at H
             have LMc19 := Aside0.mk c19;clear c19
             obtain ⟨y868, hy868⟩ : ∃ y_ : List (S81), y_ = (x6_1 ++ [(⟨rd t855 x7_1, rd t855 (ji10), t862, t864, t866⟩ : S81)]) := ⟨_, rfl⟩
             replace H : (tenorref8_Periods.l0 k1 t855 y868 ji10 a0_0 a0_1 a0_2 a0_3 a0_4 a0_5 a0_6 a0_7 a0_8 l0_9) = some (r1, r2) := by first | (rw [hy868]; with_reducible exact H) | (have H2_ := (Option.bind_some _ _).symm.trans H; rw [hy868]; with_reducible exact H2_) | (have H2_ := (Option.bind_some _ _).symm.trans H; with_reducible exact H2_) | with_reducible exact H | (rw [hy868]; exact H) | exact H
             have Ny868 := Aside0.mk hy868;clear hy868;have H' := Aside0.mk H;clear H
             try go_wp2_with (first | ((with_reducible refine gG 39 ?_); refine goA (some 47) Try.func39 #[.agg #[.int .i64 a0_8, .slice A0_9 l0_9.length c0_9], .int .i64 (rd t855 x7_1), .int .i64 a0_6] ?_; (with_reducible refine (tenorref6_Adjust.calls k1 a0_8 _ _ l0_9 (rd t855 x7_1) a0_6 t862 t863 _ ?side1 ?side2 A12.out).mono ?_); (case side1 => exact Kd.C_below HR0_9.out bB); (case side2 => exact HC0_9.out); rintro e w31 ⟨rfl, hb⟩; refine ⟨_, rfl, ?_⟩; replace HO_4 := Aside0.mk (Kd.R_below (by (with_reducible repeat (first | apply Kd.R_alloc | apply Kd.R_drewN | apply Kd.R_drew)); exact (Kd.R_mono (Kd.R_far (p := ⟨gb861, 4, none⟩) (Kd.R_far (p := ⟨gb861, 3, none⟩) (Kd.R_far (p := ⟨gb861, 2, none⟩) (Kd.R_far (p := ⟨gb861, 1, none⟩) (Kd.R_far (p := ⟨gb861, 0, none⟩) (Kd.R_types HO_4.out BK861.out (by decide)) (fun _ hk => hk.2) (.int .i64 (rd t855 x7_1))) (fun _ hk => hk.2) (.int .i64 (rd t855 (ji10)))) (fun _ hk => hk.2) (.int .i64 0)) (fun _ hk => hk.2) (.int .i64 0)) (fun _ hk => hk.2) (.int .i64 0)) (fun _ h_ => h_.1))) hb); replace HO_6 := Aside0.mk (Kd.R_below (by (with_reducible repeat (first | apply Kd.R_alloc | apply Kd.R_drewN | apply Kd.R_drew)); exact (Kd.R_mono (Kd.R_far (p := ⟨gb861, 4, none⟩) (Kd.R_far (p := ⟨gb861, 3, none⟩) (Kd.R_far (p := ⟨gb861, 2, none⟩) (Kd.R_far (p := ⟨gb861, 1, none⟩) (Kd.R_far (p := ⟨gb861, 0, none⟩) (Kd.R_mono HO_6.out (fun k_ hk => (⟨hk, hk.2⟩ : _ ∧ k_ ≠ gb861))) (fun _ hk => hk.2) (.int .i64 (rd t855 x7_1))) (fun _ hk => hk.2) (.int .i64 (rd t855 (ji10)))) (fun _ hk => hk.2) (.int .i64 0)) (fun _ hk => hk.2) (.int .i64 0)) (fun _ hk => hk.2) (.int .i64 0)) (fun _ h_ => h_.1))) hb); replace BK854 := Aside0.mk (blk_below (g := gb854) (o := .cells #[.int .i64 a0_0, .int .i64 a0_1, .int .i64 a0_2, .int .i64 a0_3, .int .i64 a0_4, .int .i64 a0_5, .int .i64 a0_6, .int .i64 a0_7, .int .i64 a0_8, .slice A0_9 l0_9.length c0_9] 66 (0, 0)) (by (with_reducible repeat (first | refine blk_drewN ?_ _ | refine blk_drew ?_ | refine blk_alloc ?_ _)); refine blk_far ?_ NB854_861.out _; (with_reducible repeat (first | refine blk_drewN ?_ _ | refine blk_drew ?_ | refine blk_alloc ?_ _)); refine blk_far ?_ NB854_861.out _; (with_reducible repeat (first | refine blk_drewN ?_ _ | refine blk_drew ?_ | refine blk_alloc ?_ _)); refine blk_far ?_ NB854_861.out _; (with_reducible repeat (first | refine blk_drewN ?_ _ | refine blk_drew ?_ | refine blk_alloc ?_ _)); refine blk_far ?_ NB854_861.out _; (with_reducible repeat (first | refine blk_drewN ?_ _ | refine blk_drew ?_ | refine blk_alloc ?_ _)); refine blk_far ?_ NB854_861.out _; (with_reducible repeat (first | refine blk_drewN ?_ _ | refine blk_drew ?_ | refine blk_alloc ?_ _)); exact BK854.out) hb); replace BK861 := Aside0.mk (blk_below (g := gb861) (o := .cells #[.int .i64 (rd t855 x7_1), .int .i64 (rd t855 (ji10)), .int .i64 0, .int .i64 0, .int .i64 0] 81 (0, 0)) (by (with_reducible repeat (first | refine blk_drewN ?_ _ | refine blk_drew ?_ | refine blk_alloc ?_ _)); refine blk_put (cs := #[.int .i64 (rd t855 x7_1), .int .i64 (rd t855 (ji10)), .int .i64 0, .int .i64 0, .int .i64 0]) ?_ 4 _ rfl; (with_reducible repeat (first | refine blk_drewN ?_ _ | refine blk_drew ?_ | refine blk_alloc ?_ _)); refine blk_put (cs := #[.int .i64 (rd t855 x7_1), .int .i64 (rd t855 (ji10)), .int .i64 0, .int .i64 0, .int .i64 0]) ?_ 3 _ rfl; (with_reducible repeat (first | refine blk_drewN ?_ _ | refine blk_drew ?_ | refine blk_alloc ?_ _)); refine blk_put (cs := #[.int .i64 (rd t855 x7_1), .int .i64 (rd t855 (ji10)), .int .i64 0, .int .i64 0, .int .i64 0]) ?_ 2 _ rfl; (with_reducible repeat (first | refine blk_drewN ?_ _ | refine blk_drew ?_ | refine blk_alloc ?_ _)); refine blk_put (cs := #[.int .i64 (rd t855 x7_1), .int .i64 0, .int .i64 0, .int .i64 0, .int .i64 0]) ?_ 1 _ rfl; (with_reducible repeat (first | refine blk_drewN ?_ _ | refine blk_drew ?_ | refine blk_alloc ?_ _)); refine blk_put (cs := #[.int .i64 0, .int .i64 0, .int .i64 0, .int .i64 0, .int .i64 0]) ?_ 0 _ rfl; (with_reducible repeat (first | refine blk_drewN ?_ _ | refine blk_drew ?_ | refine blk_alloc ?_ _)); exact BK861.out) hb); replace HB := bS hb; (try clear hb); (try clear hb2); (try clear hk); (try clear hi); obtain ⟨_,_,_,_,_,_,_,_,_,_,_,_,_,_,_,_,_,_,_,_⟩ := blk10 BK854; obtain ⟨_,_,_,_,_,_,_,_,_,_⟩ := blk5 BK861) | ((with_reducible refine gate_callee (f := 39) rfl ?_); refine goesL_ (some 60) rfl rfl Try.func39 (by kernel_rfl) rfl #[.agg #[.int .i64 a0_8, .slice A0_9 l0_9.length c0_9], .int .i64 (rd t855 (ji10)), .int .i64 a0_6] rfl (by (try simp only [List.map_toArray, List.map_cons, List.map_nil]); first | done | (simp only [hji10]; rfl) | rfl | (simp only [List.length_drop, List.length_take]; rfl)) ?_; (with_reducible refine (tenorref6_Adjust.calls k1 a0_8 _ _ l0_9 (rd t855 (ji10)) a0_6 t864 t865 _ ?side1 ?side2 A14.out).mono ?_); (case side1 => exact sC HR0_9); (case side2 => exact HC0_9.out); rintro e w34 ⟨rfl, hb⟩; refine ⟨_, rfl, ?_⟩; replace HO_4 := Aside0.mk (Kd.R_below (bR HO_4) hb); replace HO_6 := Aside0.mk (Kd.R_below (bR HO_6) hb); replace BK854 := bK BK854 hb; replace BK861 := bK BK861 hb; replace HB := bS hb; (try clear hb); (try clear hb2); (try clear hk); (try clear hi); obtain ⟨_,_,_,_,_,_,_,_,_,_,_,_,_,_,_,_,_,_,_,_⟩ := blk10 BK854) | ((with_reducible refine gG 41 ?_); refine goA (some 76) Try.func41 #[.agg #[.int .i64 a0_8, .slice A0_9 l0_9.length c0_9], .int .i64 t864, .int .i64 a0_7] ?_; (with_reducible refine (tenorref6_Add.calls k1 a0_8 _ _ l0_9 t864 a0_7 t866 t867 _ ?side1 ?side2 A17.out).mono ?_); (case side1 => exact sC HR0_9); (case side2 => exact HC0_9.out); rintro e w36 ⟨rfl, hb⟩; refine ⟨_, rfl, ?_⟩; replace HO_4 := Aside0.mk (Kd.R_below (bR HO_4) hb); replace HO_6 := Aside0.mk (Kd.R_below (bR HO_6) hb); replace BK854 := bK BK854 hb; replace BK861 := bK BK861 hb; replace HB := bS hb; (try clear hb); (try clear hb2); (try clear hk); (try clear hi); obtain ⟨_,_,_,_,_,_,_,_,_,_⟩ := blk5 BK861) | ((with_reducible refine gate_builtin (b := .append) (xs := #[.tmp 89, .tmp 91]) rfl ?_); at_builtin; refine Kd.R_append k81 (w0 := w) w.heap.size rfl (.tmp 89) (.tmp 91) 74 81 (.agg #[(.int .i64 0), (.int .i64 0), (.int .i64 0), (.int .i64 0), (.int .i64 0)]) 40 rfl Try.underlying74 info81 rfl (by decide) (by omega) u6 x6_1 (⟨rd t855 x7_1, rd t855 (ji10), t862, t864, t866⟩ : S81) [.int .i64 (rd t855 x7_1), .int .i64 (rd t855 (ji10)), .int .i64 t862, .int .i64 t864, .int .i64 t866] (fun k_ => k_ ≠ gb861) (fun _ => False) rfl (by first | (go_simp; done) | (go_simp; rfl)) ?aP (fun _ hk => hk.elim) ?aF ?aO ?aB ?aS ?aL ?_; (case aP => exact k81_mkM _ _ _ (⟨rd t855 x7_1, rd t855 (ji10), t862, t864, t866⟩ : S81)); (case aB => exact bB); (case aF => exact (fun k_ hk => Kd.freshB (g := gb861) (o := .cells #[.int .i64 (rd t855 x7_1), .int .i64 (rd t855 (ji10)), .int .i64 t862, .int .i64 t864, .int .i64 t866] 81 (0, 0)) (by (with_reducible repeat (first | refine blk_drewN ?_ _ | refine blk_drew ?_ | refine blk_alloc ?_ _)); refine blk_put (cs := #[.int .i64 (rd t855 x7_1), .int .i64 (rd t855 (ji10)), .int .i64 t862, .int .i64 t864, .int .i64 0]) ?_ 4 _ rfl; (with_reducible repeat (first | refine blk_drewN ?_ _ | refine blk_drew ?_ | refine blk_alloc ?_ _)); refine blk_put (cs := #[.int .i64 (rd t855 x7_1), .int .i64 (rd t855 (ji10)), .int .i64 t862, .int .i64 0, .int .i64 0]) ?_ 3 _ rfl; (with_reducible repeat (first | refine blk_drewN ?_ _ | refine blk_drew ?_ | refine blk_alloc ?_ _)); refine blk_put (cs := #[.int .i64 (rd t855 x7_1), .int .i64 (rd t855 (ji10)), .int .i64 0, .int .i64 0, .int .i64 0]) ?_ 2 _ rfl; (with_reducible repeat (first | refine blk_drewN ?_ _ | refine blk_drew ?_ | refine blk_alloc ?_ _)); exact BK861.out) k_ hk)); (case aO => exact (by (with_reducible repeat (first | apply Kd.R_alloc | apply Kd.R_drewN | apply Kd.R_drew)); exact Kd.R_mono (Kd.R_far (p := ⟨gb861, 4, none⟩) (Kd.R_far (p := ⟨gb861, 3, none⟩) (Kd.R_far (p := ⟨gb861, 2, none⟩) (Kd.R_mono HO_6.out (fun k_ hk => (⟨hk, hk.2⟩ : _ ∧ k_ ≠ gb861))) (fun _ hk => hk.2) (.int .i64 t862)) (fun _ hk => hk.2) (.int .i64 t864)) (fun _ hk => hk.2) (.int .i64 t866)) (fun _ hk => hk.1.2))); (case aS => exact (below_size bB)); (case aL => have := LMc19.out; omega); intro v869 w38 ho hb hg hat; rw [← Ny868.out] at ho; replace HO_4 := Aside0.mk (Kd.R_over' (by (with_reducible repeat (first | apply Kd.R_alloc | apply Kd.R_drewN | apply Kd.R_drew)); exact (Kd.R_mono (Kd.R_far (p := ⟨gb861, 4, none⟩) (Kd.R_far (p := ⟨gb861, 3, none⟩) (Kd.R_far (p := ⟨gb861, 2, none⟩) (Kd.R_types HO_4.out BK861.out (by decide)) (fun _ hk => hk.2) (.int .i64 t862)) (fun _ hk => hk.2) (.int .i64 t864)) (fun _ hk => hk.2) (.int .i64 t866)) (fun _ h_ => h_.1))) (Kd.R_typed (by (with_reducible repeat (first | apply Kd.R_alloc | apply Kd.R_drewN | apply Kd.R_drew)); exact (Kd.R_mono (Kd.R_far (p := ⟨gb861, 4, none⟩) (Kd.R_far (p := ⟨gb861, 3, none⟩) (Kd.R_far (p := ⟨gb861, 2, none⟩) (Kd.R_mono HO_6.out (fun k_ hk => (⟨hk, hk.2⟩ : _ ∧ k_ ≠ gb861))) (fun _ hk => hk.2) (.int .i64 t862)) (fun _ hk => hk.2) (.int .i64 t864)) (fun _ hk => hk.2) (.int .i64 t866)) (fun _ h_ => h_.1)))) (by decide) hg); replace BK854 := Aside0.mk (blk_grown (g := gb854) (o := .cells #[.int .i64 a0_0, .int .i64 a0_1, .int .i64 a0_2, .int .i64 a0_3, .int .i64 a0_4, .int .i64 a0_5, .int .i64 a0_6, .int .i64 a0_7, .int .i64 a0_8, .slice A0_9 l0_9.length c0_9] 66 (0, 0)) (by (with_reducible repeat (first | refine blk_drewN ?_ _ | refine blk_drew ?_ | refine blk_alloc ?_ _)); refine blk_far ?_ NB854_861.out _; (with_reducible repeat (first | refine blk_drewN ?_ _ | refine blk_drew ?_ | refine blk_alloc ?_ _)); refine blk_far ?_ NB854_861.out _; (with_reducible repeat (first | refine blk_drewN ?_ _ | refine blk_drew ?_ | refine blk_alloc ?_ _)); refine blk_far ?_ NB854_861.out _; (with_reducible repeat (first | refine blk_drewN ?_ _ | refine blk_drew ?_ | refine blk_alloc ?_ _)); exact BK854.out) hg (Kd.R_ne HO_6.out BK854.out (by decide))); replace BK861 := Aside0.mk (blk_grown (g := gb861) (o := .cells #[.int .i64 (rd t855 x7_1), .int .i64 (rd t855 (ji10)), .int .i64 t862, .int .i64 t864, .int .i64 t866] 81 (0, 0)) (by (with_reducible repeat (first | refine blk_drewN ?_ _ | refine blk_drew ?_ | refine blk_alloc ?_ _)); refine blk_put (cs := #[.int .i64 (rd t855 x7_1), .int .i64 (rd t855 (ji10)), .int .i64 t862, .int .i64 t864, .int .i64 0]) ?_ 4 _ rfl; (with_reducible repeat (first | refine blk_drewN ?_ _ | refine blk_drew ?_ | refine blk_alloc ?_ _)); refine blk_put (cs := #[.int .i64 (rd t855 x7_1), .int .i64 (rd t855 (ji10)), .int .i64 t862, .int .i64 0, .int .i64 0]) ?_ 3 _ rfl; (with_reducible repeat (first | refine blk_drewN ?_ _ | refine blk_drew ?_ | refine blk_alloc ?_ _)); refine blk_put (cs := #[.int .i64 (rd t855 x7_1), .int .i64 (rd t855 (ji10)), .int .i64 0, .int .i64 0, .int .i64 0]) ?_ 2 _ rfl; (with_reducible repeat (first | refine blk_drewN ?_ _ | refine blk_drew ?_ | refine blk_alloc ?_ _)); exact BK861.out) hg (Kd.R_away HO_6.out (fun _ hk => hk.2))); replace HB := Aside0.mk (hb); have HO870 := Aside0.mk (ho); clear HO_6; clear ho hb hg hat))
             go_roundg k1
             case measure => have := HK1.out; omega
             case rel => exact ⟨(y868), (ji10), (by first | rfl | (simp; done) | (simp only [← hji10] <;> (first | rfl | simp)) | (simp [*]; done)), H', ⟨by have := HK1.out; omega⟩, ⟨(bR HO_4)⟩, ⟨by (with_reducible repeat (first | apply Kd.R_alloc | apply Kd.R_drewN | apply Kd.R_drew)); exact Kd.R_mono HO870.out (fun _ hk => trivial)⟩, ⟨(bk BK854)⟩, ⟨bB⟩⟩
            ·
             rw [if_neg c19] at H
             exact absurd H (by simp)
           ·
            rw [if_neg c18] at H
            have c18b0 : (t867 == 0) = false := beq_eq_false_iff_ne.mpr c18
            have c18b1 : (t867 != 0) = true := bne_iff_ne.mpr c18
            simp only [Option.some.injEq, Prod.mk.injEq] at H
            obtain ⟨rfl, rfl⟩ := H
            try go_wp2_with (first | ((with_reducible refine gG 39 ?_); refine goA (some 47) Try.func39 #[.agg #[.int .i64 a0_8, .slice A0_9 l0_9.length c0_9], .int .i64 (rd t855 x7_1), .int .i64 a0_6] ?_; (with_reducible refine (tenorref6_Adjust.calls k1 a0_8 _ _ l0_9 (rd t855 x7_1) a0_6 t862 t863 _ ?side1 ?side2 A12.out).mono ?_); (case side1 => exact Kd.C_below HR0_9.out bB); (case side2 => exact HC0_9.out); rintro e w50 ⟨rfl, hb⟩; refine ⟨_, rfl, ?_⟩; replace HO_4 := Aside0.mk (Kd.R_below (by (with_reducible repeat (first | apply Kd.R_alloc | apply Kd.R_drewN | apply Kd.R_drew)); exact (Kd.R_mono (Kd.R_far (p := ⟨gb861, 4, none⟩) (Kd.R_far (p := ⟨gb861, 3, none⟩) (Kd.R_far (p := ⟨gb861, 2, none⟩) (Kd.R_far (p := ⟨gb861, 1, none⟩) (Kd.R_far (p := ⟨gb861, 0, none⟩) (Kd.R_types HO_4.out BK861.out (by decide)) (fun _ hk => hk.2) (.int .i64 (rd t855 x7_1))) (fun _ hk => hk.2) (.int .i64 (rd t855 (ji10)))) (fun _ hk => hk.2) (.int .i64 0)) (fun _ hk => hk.2) (.int .i64 0)) (fun _ hk => hk.2) (.int .i64 0)) (fun _ h_ => h_.1))) hb); replace HO_6 := Aside0.mk (Kd.R_below (by (with_reducible repeat (first | apply Kd.R_alloc | apply Kd.R_drewN | apply Kd.R_drew)); exact (Kd.R_mono (Kd.R_far (p := ⟨gb861, 4, none⟩) (Kd.R_far (p := ⟨gb861, 3, none⟩) (Kd.R_far (p := ⟨gb861, 2, none⟩) (Kd.R_far (p := ⟨gb861, 1, none⟩) (Kd.R_far (p := ⟨gb861, 0, none⟩) (Kd.R_mono HO_6.out (fun k_ hk => (⟨hk, hk.2⟩ : _ ∧ k_ ≠ gb861))) (fun _ hk => hk.2) (.int .i64 (rd t855 x7_1))) (fun _ hk => hk.2) (.int .i64 (rd t855 (ji10)))) (fun _ hk => hk.2) (.int .i64 0)) (fun _ hk => hk.2) (.int .i64 0)) (fun _ hk => hk.2) (.int .i64 0)) (fun _ h_ => h_.1))) hb); replace BK854 := Aside0.mk (blk_below (g := gb854) (o := .cells #[.int .i64 a0_0, .int .i64 a0_1, .int .i64 a0_2, .int .i64 a0_3, .int .i64 a0_4, .int .i64 a0_5, .int .i64 a0_6, .int .i64 a0_7, .int .i64 a0_8, .slice A0_9 l0_9.length c0_9] 66 (0, 0)) (by (with_reducible repeat (first | refine blk_drewN ?_ _ | refine blk_drew ?_ | refine blk_alloc ?_ _)); refine blk_far ?_ NB854_861.out _; (with_reducible repeat (first | refine blk_drewN ?_ _ | refine blk_drew ?_ | refine blk_alloc ?_ _)); refine blk_far ?_ NB854_861.out _; (with_reducible repeat (first | refine blk_drewN ?_ _ | refine blk_drew ?_ | refine blk_alloc ?_ _)); refine blk_far ?_ NB854_861.out _; (with_reducible repeat (first | refine blk_drewN ?_ _ | refine blk_drew ?_ | refine blk_alloc ?_ _)); refine blk_far ?_ NB854_861.out _; (with_reducible repeat (first | refine blk_drewN ?_ _ | refine blk_drew ?_ | refine blk_alloc ?_ _)); refine blk_far ?_ NB854_861.out _; (with_reducible repeat (first | refine blk_drewN ?_ _ | refine blk_drew ?_ | refine blk_alloc ?_ _)); exact BK854.out) hb); replace BK861 := Aside0.mk (blk_below (g := gb861) (o := .cells #[.int .i64 (rd t855 x7_1), .int .i64 (rd t855 (ji10)), .int .i64 0, .int .i64 0, .int .i64 0] 81 (0, 0)) (by (with_reducible repeat (first | refine blk_drewN ?_ _ | refine blk_drew ?_ | refine blk_alloc ?_ _)); refine blk_put (cs := #[.int .i64 (rd t855 x7_1), .int .i64 (rd t855 (ji10)), .int .i64 0, .int .i64 0, .int .i64 0]) ?_ 4 _ rfl; (with_reducible repeat (first | refine blk_drewN ?_ _ | refine blk_drew ?_ | refine blk_alloc ?_ _)); refine blk_put (cs := #[.int .i64 (rd t855 x7_1), .int .i64 (rd t855 (ji10)), .int .i64 0, .int .i64 0, .int .i64 0]) ?_ 3 _ rfl; (with_reducible repeat (first | refine blk_drewN ?_ _ | refine blk_drew ?_ | refine blk_alloc ?_ _)); refine blk_put (cs := #[.int .i64 (rd t855 x7_1), .int .i64 (rd t855 (ji10)), .int .i64 0, .int .i64 0, .int .i64 0]) ?_ 2 _ rfl; (with_reducible repeat (first | refine blk_drewN ?_ _ | refine blk_drew ?_ | refine blk_alloc ?_ _)); refine blk_put (cs := #[.int .i64 (rd t855 x7_1), .int .i64 0, .int .i64 0, .int .i64 0, .int .i64 0]) ?_ 1 _ rfl; (with_reducible repeat (first | refine blk_drewN ?_ _ | refine blk_drew ?_ | refine blk_alloc ?_ _)); refine blk_put (cs := #[.int .i64 0, .int .i64 0, .int .i64 0, .int .i64 0, .int .i64 0]) ?_ 0 _ rfl; (with_reducible repeat (first | refine blk_drewN ?_ _ | refine blk_drew ?_ | refine blk_alloc ?_ _)); exact BK861.out) hb); replace HB := bS hb; (try clear hb); (try clear hb2); (try clear hk); (try clear hi); obtain ⟨_,_,_,_,_,_,_,_,_,_,_,_,_,_,_,_,_,_,_,_⟩ := blk10 BK854; obtain ⟨_,_,_,_,_,_,_,_,_,_⟩ := blk5 BK861) | ((with_reducible refine gate_callee (f := 39) rfl ?_); refine goesL_ (some 60) rfl rfl Try.func39 (by kernel_rfl) rfl #[.agg #[.int .i64 a0_8, .slice A0_9 l0_9.length c0_9], .int .i64 (rd t855 (ji10)), .int .i64 a0_6] rfl (by (try simp only [List.map_toArray, List.map_cons, List.map_nil]); first | done | (simp only [hji10]; rfl) | rfl | (simp only [List.length_drop, List.length_take]; rfl)) ?_; (with_reducible refine (tenorref6_Adjust.calls k1 a0_8 _ _ l0_9 (rd t855 (ji10)) a0_6 t864 t865 _ ?side1 ?side2 A14.out).mono ?_); (case side1 => exact sC HR0_9); (case side2 => exact HC0_9.out); rintro e w53 ⟨rfl, hb⟩; refine ⟨_, rfl, ?_⟩; replace HO_4 := Aside0.mk (Kd.R_below (bR HO_4) hb); replace HO_6 := Aside0.mk (Kd.R_below (bR HO_6) hb); replace BK854 := bK BK854 hb; replace BK861 := bK BK861 hb; replace HB := bS hb; (try clear hb); (try clear hb2); (try clear hk); (try clear hi); obtain ⟨_,_,_,_,_,_,_,_,_,_,_,_,_,_,_,_,_,_,_,_⟩ := blk10 BK854) | ((with_reducible refine gG 41 ?_); refine goA (some 76) Try.func41 #[.agg #[.int .i64 a0_8, .slice A0_9 l0_9.length c0_9], .int .i64 t864, .int .i64 a0_7] ?_; (with_reducible refine (tenorref6_Add.calls k1 a0_8 _ _ l0_9 t864 a0_7 t866 t867 _ ?side1 ?side2 A17.out).mono ?_); (case side1 => exact sC HR0_9); (case side2 => exact HC0_9.out); rintro e w55 ⟨rfl, hb⟩; refine ⟨_, rfl, ?_⟩; replace HO_4 := Aside0.mk (Kd.R_below (bR HO_4) hb); replace HO_6 := Aside0.mk (Kd.R_below (bR HO_6) hb); replace BK854 := bK BK854 hb; replace BK861 := bK BK861 hb; replace HB := bS hb; (try clear hb); (try clear hb2); (try clear hk); (try clear hi)))
            go_ret2
            exact ⟨_, by first | rfl | (simp [errW_none, errW_some] <;> rfl) | (simp only [← hji10]; first | rfl | (simp [errW_none, errW_some] <;> rfl)) | (simp [*, errW_none, errW_some] <;> rfl), by first | exact Kd.R_nil _ _ _ _ _ | exact Kd.N_nil _ _ _ _ _ | exact Kd.V_nil _ _ _ _ _ | exact Kd.Q_nil _ _ _ _ _ | exact Kd.S_nil _ _ _ _ _, bB⟩
          ·
           rw [if_neg c16] at H
           have c16b0 : decide (0 < a0_7) = false := decide_eq_false c16
           clear c16
           by_cases c56 : x6_1.length < 3518437208883
           ·
            rw [if_pos c56] at H
            have LMc56 := Aside0.mk c56;clear c56
            obtain ⟨y871, hy871⟩ : ∃ y_ : List (S81), y_ = (x6_1 ++ [(⟨rd t855 x7_1, rd t855 (ji10), t862, t864, t864⟩ : S81)]) := ⟨_, rfl⟩
            replace H : (tenorref8_Periods.l0 k1 t855 y871 ji10 a0_0 a0_1 a0_2 a0_3 a0_4 a0_5 a0_6 a0_7 a0_8 l0_9) = some (r1, r2) := by first | (rw [hy871]; with_reducible exact H) | (have H2_ := (Option.bind_some _ _).symm.trans H; rw [hy871]; with_reducible exact H2_) | (have H2_ := (Option.bind_some _ _).symm.trans H; with_reducible exact H2_) | with_reducible exact H | (rw [hy871]; exact H) | exact H
            have Ny871 := Aside0.mk hy871;clear hy871;have H' := Aside0.mk H;clear H
            try go_wp2_with (first | ((with_reducible refine gG 39 ?_); refine goA (some 47) Try.func39 #[.agg #[.int .i64 a0_8, .slice A0_9 l0_9.length c0_9], .int .i64 (rd t855 x7_1), .int .i64 a0_6] ?_; (with_reducible refine (tenorref6_Adjust.calls k1 a0_8 _ _ l0_9 (rd t855 x7_1) a0_6 t862 t863 _ ?side1 ?side2 A12.out).mono ?_); (case side1 => exact Kd.C_below HR0_9.out bB); (case side2 => exact HC0_9.out); rintro e w68 ⟨rfl, hb⟩; refine ⟨_, rfl, ?_⟩; replace HO_4 := Aside0.mk (Kd.R_below (by (with_reducible repeat (first | apply Kd.R_alloc | apply Kd.R_drewN | apply Kd.R_drew)); exact (Kd.R_mono (Kd.R_far (p := ⟨gb861, 4, none⟩) (Kd.R_far (p := ⟨gb861, 3, none⟩) (Kd.R_far (p := ⟨gb861, 2, none⟩) (Kd.R_far (p := ⟨gb861, 1, none⟩) (Kd.R_far (p := ⟨gb861, 0, none⟩) (Kd.R_types HO_4.out BK861.out (by decide)) (fun _ hk => hk.2) (.int .i64 (rd t855 x7_1))) (fun _ hk => hk.2) (.int .i64 (rd t855 (ji10)))) (fun _ hk => hk.2) (.int .i64 0)) (fun _ hk => hk.2) (.int .i64 0)) (fun _ hk => hk.2) (.int .i64 0)) (fun _ h_ => h_.1))) hb); replace HO_6 := Aside0.mk (Kd.R_below (by (with_reducible repeat (first | apply Kd.R_alloc | apply Kd.R_drewN | apply Kd.R_drew)); exact (Kd.R_mono (Kd.R_far (p := ⟨gb861, 4, none⟩) (Kd.R_far (p := ⟨gb861, 3, none⟩) (Kd.R_far (p := ⟨gb861, 2, none⟩) (Kd.R_far (p := ⟨gb861, 1, none⟩) (Kd.R_far (p := ⟨gb861, 0, none⟩) (Kd.R_mono HO_6.out (fun k_ hk => (⟨hk, hk.2⟩ : _ ∧ k_ ≠ gb861))) (fun _ hk => hk.2) (.int .i64 (rd t855 x7_1))) (fun _ hk => hk.2) (.int .i64 (rd t855 (ji10)))) (fun _ hk => hk.2) (.int .i64 0)) (fun _ hk => hk.2) (.int .i64 0)) (fun _ hk => hk.2) (.int .i64 0)) (fun _ h_ => h_.1))) hb); replace BK854 := Aside0.mk (blk_below (g := gb854) (o := .cells #[.int .i64 a0_0, .int .i64 a0_1, .int .i64 a0_2, .int .i64 a0_3, .int .i64 a0_4, .int .i64 a0_5, .int .i64 a0_6, .int .i64 a0_7, .int .i64 a0_8, .slice A0_9 l0_9.length c0_9] 66 (0, 0)) (by (with_reducible repeat (first | refine blk_drewN ?_ _ | refine blk_drew ?_ | refine blk_alloc ?_ _)); refine blk_far ?_ NB854_861.out _; (with_reducible repeat (first | refine blk_drewN ?_ _ | refine blk_drew ?_ | refine blk_alloc ?_ _)); refine blk_far ?_ NB854_861.out _; (with_reducible repeat (first | refine blk_drewN ?_ _ | refine blk_drew ?_ | refine blk_alloc ?_ _)); refine blk_far ?_ NB854_861.out _; (with_reducible repeat (first | refine blk_drewN ?_ _ | refine blk_drew ?_ | refine blk_alloc ?_ _)); refine blk_far ?_ NB854_861.out _; (with_reducible repeat (first | refine blk_drewN ?_ _ | refine blk_drew ?_ | refine blk_alloc ?_ _)); refine blk_far ?_ NB854_861.out _; (with_reducible repeat (first | refine blk_drewN ?_ _ | refine blk_drew ?_ | refine blk_alloc ?_ _)); exact BK854.out) hb); replace BK861 := Aside0.mk (blk_below (g := gb861) (o := .cells #[.int .i64 (rd t855 x7_1), .int .i64 (rd t855 (ji10)), .int .i64 0, .int .i64 0, .int .i64 0] 81 (0, 0)) (by (with_reducible repeat (first | refine blk_drewN ?_ _ | refine blk_drew ?_ | refine blk_alloc ?_ _)); refine blk_put (cs := #[.int .i64 (rd t855 x7_1), .int .i64 (rd t855 (ji10)), .int .i64 0, .int .i64 0, .int .i64 0]) ?_ 4 _ rfl; (with_reducible repeat (first | refine blk_drewN ?_ _ | refine blk_drew ?_ | refine blk_alloc ?_ _)); refine blk_put (cs := #[.int .i64 (rd t855 x7_1), .int .i64 (rd t855 (ji10)), .int .i64 0, .int .i64 0, .int .i64 0]) ?_ 3 _ rfl; (with_reducible repeat (first | refine blk_drewN ?_ _ | refine blk_drew ?_ | refine blk_alloc ?_ _)); refine blk_put (cs := #[.int .i64 (rd t855 x7_1), .int .i64 (rd t855 (ji10)), .int .i64 0, .int .i64 0, .int .i64 0]) ?_ 2 _ rfl; (with_reducible repeat (first | refine blk_drewN ?_ _ | refine blk_drew ?_ | refine blk_alloc ?_ _)); refine blk_put (cs := #[.int .i64 (rd t855 x7_1), .int .i64 0, .int .i64 0, .int .i64 0, .int .i64 0]) ?_ 1 _ rfl; (with_reducible repeat (first | refine blk_drewN ?_ _ | refine blk_drew ?_ | refine blk_alloc ?_ _)); refine blk_put (cs := #[.int .i64 0, .int .i64 0, .int .i64 0, .int .i64 0, .int .i64 0]) ?_ 0 _ rfl; (with_reducible repeat (first | refine blk_drewN ?_ _ | refine blk_drew ?_ | refine blk_alloc ?_ _)); exact BK861.out) hb); replace HB := bS hb; (try clear hb); (try clear hb2); (try clear hk); (try clear hi); obtain ⟨_,_,_,_,_,_,_,_,_,_,_,_,_,_,_,_,_,_,_,_⟩ := blk10 BK854; obtain ⟨_,_,_,_,_,_,_,_,_,_⟩ := blk5 BK861) | ((with_reducible refine gate_callee (f := 39) rfl ?_); refine goesL_ (some 60) rfl rfl Try.func39 (by kernel_rfl) rfl #[.agg #[.int .i64 a0_8, .slice A0_9 l0_9.length c0_9], .int .i64 (rd t855 (ji10)), .int .i64 a0_6] rfl (by (try simp only [List.map_toArray, List.map_cons, List.map_nil]); first | done | (simp only [hji10]; rfl) | rfl | (simp only [List.length_drop, List.length_take]; rfl)) ?_; (with_reducible refine (tenorref6_Adjust.calls k1 a0_8 _ _ l0_9 (rd t855 (ji10)) a0_6 t864 t865 _ ?side1 ?side2 A14.out).mono ?_); (case side1 => exact sC HR0_9); (case side2 => exact HC0_9.out); rintro e w71 ⟨rfl, hb⟩; refine ⟨_, rfl, ?_⟩; replace HO_4 := Aside0.mk (Kd.R_below (bR HO_4) hb); replace HO_6 := Aside0.mk (Kd.R_below (bR HO_6) hb); replace BK854 := bK BK854 hb; replace BK861 := bK BK861 hb; replace HB := bS hb; (try clear hb); (try clear hb2); (try clear hk); (try clear hi); obtain ⟨_,_,_,_,_,_,_,_,_,_,_,_,_,_,_,_,_,_,_,_⟩ := blk10 BK854; obtain ⟨_,_,_,_,_,_,_,_,_,_⟩ := blk5 BK861) | ((with_reducible refine gate_builtin (b := .append) (xs := #[.tmp 89, .tmp 91]) rfl ?_); at_builtin; refine Kd.R_append k81 (w0 := w) w.heap.size rfl (.tmp 89) (.tmp 91) 74 81 (.agg #[(.int .i64 0), (.int .i64 0), (.int .i64 0), (.int .i64 0), (.int .i64 0)]) 40 rfl Try.underlying74 info81 rfl (by decide) (by omega) u6 x6_1 (⟨rd t855 x7_1, rd t855 (ji10), t862, t864, t864⟩ : S81) [.int .i64 (rd t855 x7_1), .int .i64 (rd t855 (ji10)), .int .i64 t862, .int .i64 t864, .int .i64 t864] (fun k_ => k_ ≠ gb861) (fun _ => False) rfl (by first | (go_simp; done) | (go_simp; rfl)) ?aP (fun _ hk => hk.elim) ?aF ?aO ?aB ?aS ?aL ?_; (case aP => exact k81_mkM _ _ _ (⟨rd t855 x7_1, rd t855 (ji10), t862, t864, t864⟩ : S81)); (case aB => exact bB); (case aF => exact (fun k_ hk => Kd.freshB (g := gb861) (o := .cells #[.int .i64 (rd t855 x7_1), .int .i64 (rd t855 (ji10)), .int .i64 t862, .int .i64 t864, .int .i64 t864] 81 (0, 0)) (by (with_reducible repeat (first | refine blk_drewN ?_ _ | refine blk_drew ?_ | refine blk_alloc ?_ _)); refine blk_put (cs := #[.int .i64 (rd t855 x7_1), .int .i64 (rd t855 (ji10)), .int .i64 t862, .int .i64 t864, .int .i64 0]) ?_ 4 _ rfl; (with_reducible repeat (first | refine blk_drewN ?_ _ | refine blk_drew ?_ | refine blk_alloc ?_ _)); refine blk_put (cs := #[.int .i64 (rd t855 x7_1), .int .i64 (rd t855 (ji10)), .int .i64 t862, .int .i64 0, .int .i64 0]) ?_ 3 _ rfl; (with_reducible repeat (first | refine blk_drewN ?_ _ | refine blk_drew ?_ | refine blk_alloc ?_ _)); refine blk_put (cs := #[.int .i64 (rd t855 x7_1), .int .i64 (rd t855 (ji10)), .int .i64 0, .int .i64 0, .int .i64 0]) ?_ 2 _ rfl; (with_reducible repeat (first | refine blk_drewN ?_ _ | refine blk_drew ?_ | refine blk_alloc ?_ _)); exact BK861.out) k_ hk)); (case aO => exact (by (with_reducible repeat (first | apply Kd.R_alloc | apply Kd.R_drewN | apply Kd.R_drew)); exact Kd.R_mono (Kd.R_far (p := ⟨gb861, 4, none⟩) (Kd.R_far (p := ⟨gb861, 3, none⟩) (Kd.R_far (p := ⟨gb861, 2, none⟩) (Kd.R_mono HO_6.out (fun k_ hk => (⟨hk, hk.2⟩ : _ ∧ k_ ≠ gb861))) (fun _ hk => hk.2) (.int .i64 t862)) (fun _ hk => hk.2) (.int .i64 t864)) (fun _ hk => hk.2) (.int .i64 t864)) (fun _ hk => hk.1.2))); (case aS => exact (below_size bB)); (case aL => have := LMc56.out; omega); intro v872 w74 ho hb hg hat; rw [← Ny871.out] at ho; replace HO_4 := Aside0.mk (Kd.R_over' (by (with_reducible repeat (first | apply Kd.R_alloc | apply Kd.R_drewN | apply Kd.R_drew)); exact (Kd.R_mono (Kd.R_far (p := ⟨gb861, 4, none⟩) (Kd.R_far (p := ⟨gb861, 3, none⟩) (Kd.R_far (p := ⟨gb861, 2, none⟩) (Kd.R_types HO_4.out BK861.out (by decide)) (fun _ hk => hk.2) (.int .i64 t862)) (fun _ hk => hk.2) (.int .i64 t864)) (fun _ hk => hk.2) (.int .i64 t864)) (fun _ h_ => h_.1))) (Kd.R_typed (by (with_reducible repeat (first | apply Kd.R_alloc | apply Kd.R_drewN | apply Kd.R_drew)); exact (Kd.R_mono (Kd.R_far (p := ⟨gb861, 4, none⟩) (Kd.R_far (p := ⟨gb861, 3, none⟩) (Kd.R_far (p := ⟨gb861, 2, none⟩) (Kd.R_mono HO_6.out (fun k_ hk => (⟨hk, hk.2⟩ : _ ∧ k_ ≠ gb861))) (fun _ hk => hk.2) (.int .i64 t862)) (fun _ hk => hk.2) (.int .i64 t864)) (fun _ hk => hk.2) (.int .i64 t864)) (fun _ h_ => h_.1)))) (by decide) hg); replace BK854 := Aside0.mk (blk_grown (g := gb854) (o := .cells #[.int .i64 a0_0, .int .i64 a0_1, .int .i64 a0_2, .int .i64 a0_3, .int .i64 a0_4, .int .i64 a0_5, .int .i64 a0_6, .int .i64 a0_7, .int .i64 a0_8, .slice A0_9 l0_9.length c0_9] 66 (0, 0)) (by (with_reducible repeat (first | refine blk_drewN ?_ _ | refine blk_drew ?_ | refine blk_alloc ?_ _)); refine blk_far ?_ NB854_861.out _; (with_reducible repeat (first | refine blk_drewN ?_ _ | refine blk_drew ?_ | refine blk_alloc ?_ _)); refine blk_far ?_ NB854_861.out _; (with_reducible repeat (first | refine blk_drewN ?_ _ | refine blk_drew ?_ | refine blk_alloc ?_ _)); refine blk_far ?_ NB854_861.out _; (with_reducible repeat (first | refine blk_drewN ?_ _ | refine blk_drew ?_ | refine blk_alloc ?_ _)); exact BK854.out) hg (Kd.R_ne HO_6.out BK854.out (by decide))); replace BK861 := Aside0.mk (blk_grown (g := gb861) (o := .cells #[.int .i64 (rd t855 x7_1), .int .i64 (rd t855 (ji10)), .int .i64 t862, .int .i64 t864, .int .i64 t864] 81 (0, 0)) (by (with_reducible repeat (first | refine blk_drewN ?_ _ | refine blk_drew ?_ | refine blk_alloc ?_ _)); refine blk_put (cs := #[.int .i64 (rd t855 x7_1), .int .i64 (rd t855 (ji10)), .int .i64 t862, .int .i64 t864, .int .i64 0]) ?_ 4 _ rfl; (with_reducible repeat (first | refine blk_drewN ?_ _ | refine blk_drew ?_ | refine blk_alloc ?_ _)); refine blk_put (cs := #[.int .i64 (rd t855 x7_1), .int .i64 (rd t855 (ji10)), .int .i64 t862, .int .i64 0, .int .i64 0]) ?_ 3 _ rfl; (with_reducible repeat (first | refine blk_drewN ?_ _ | refine blk_drew ?_ | refine blk_alloc ?_ _)); refine blk_put (cs := #[.int .i64 (rd t855 x7_1), .int .i64 (rd t855 (ji10)), .int .i64 0, .int .i64 0, .int .i64 0]) ?_ 2 _ rfl; (with_reducible repeat (first | refine blk_drewN ?_ _ | refine blk_drew ?_ | refine blk_alloc ?_ _)); exact BK861.out) hg (Kd.R_away HO_6.out (fun _ hk => hk.2))); replace HB := Aside0.mk (hb); have HO873 := Aside0.mk (ho); clear HO_6; clear ho hb hg hat))
            go_roundg k1
            case measure => have := HK1.out; omega
            case rel => exact ⟨(y871), (ji10), (by first | rfl | (simp; done) | (simp only [← hji10] <;> (first | rfl | simp)) | (simp [*]; done)), H', ⟨by have := HK1.out; omega⟩, ⟨(bR HO_4)⟩, ⟨by (with_reducible repeat (first | apply Kd.R_alloc | apply Kd.R_drewN | apply Kd.R_drew)); exact Kd.R_mono HO873.out (fun _ hk => trivial)⟩, ⟨(bk BK854)⟩, ⟨bB⟩⟩
           ·
            rw [if_neg c56] at H
            exact absurd H (by simp)
         ·
          rw [if_neg c15] at H
          have c15b0 : (t865 == 0) = false := beq_eq_false_iff_ne.mpr c15
          have c15b1 : (t865 != 0) = true := bne_iff_ne.mpr c15
          simp only [Option.some.injEq, Prod.mk.injEq] at H
          obtain ⟨rfl, rfl⟩ := H
          try go_wp2_with (first | ((with_reducible refine gG 39 ?_); refine goA (some 47) Try.func39 #[.agg #[.int .i64 a0_8, .slice A0_9 l0_9.length c0_9], .int .i64 (rd t855 x7_1), .int .i64 a0_6] ?_; (with_reducible refine (tenorref6_Adjust.calls k1 a0_8 _ _ l0_9 (rd t855 x7_1) a0_6 t862 t863 _ ?side1 ?side2 A12.out).mono ?_); (case side1 => exact Kd.C_below HR0_9.out bB); (case side2 => exact HC0_9.out); rintro e w86 ⟨rfl, hb⟩; refine ⟨_, rfl, ?_⟩; replace HO_4 := Aside0.mk (Kd.R_below (by (with_reducible repeat (first | apply Kd.R_alloc | apply Kd.R_drewN | apply Kd.R_drew)); exact (Kd.R_mono (Kd.R_far (p := ⟨gb861, 4, none⟩) (Kd.R_far (p := ⟨gb861, 3, none⟩) (Kd.R_far (p := ⟨gb861, 2, none⟩) (Kd.R_far (p := ⟨gb861, 1, none⟩) (Kd.R_far (p := ⟨gb861, 0, none⟩) (Kd.R_types HO_4.out BK861.out (by decide)) (fun _ hk => hk.2) (.int .i64 (rd t855 x7_1))) (fun _ hk => hk.2) (.int .i64 (rd t855 (ji10)))) (fun _ hk => hk.2) (.int .i64 0)) (fun _ hk => hk.2) (.int .i64 0)) (fun _ hk => hk.2) (.int .i64 0)) (fun _ h_ => h_.1))) hb); replace HO_6 := Aside0.mk (Kd.R_below (by (with_reducible repeat (first | apply Kd.R_alloc | apply Kd.R_drewN | apply Kd.R_drew)); exact (Kd.R_mono (Kd.R_far (p := ⟨gb861, 4, none⟩) (Kd.R_far (p := ⟨gb861, 3, none⟩) (Kd.R_far (p := ⟨gb861, 2, none⟩) (Kd.R_far (p := ⟨gb861, 1, none⟩) (Kd.R_far (p := ⟨gb861, 0, none⟩) (Kd.R_mono HO_6.out (fun k_ hk => (⟨hk, hk.2⟩ : _ ∧ k_ ≠ gb861))) (fun _ hk => hk.2) (.int .i64 (rd t855 x7_1))) (fun _ hk => hk.2) (.int .i64 (rd t855 (ji10)))) (fun _ hk => hk.2) (.int .i64 0)) (fun _ hk => hk.2) (.int .i64 0)) (fun _ hk => hk.2) (.int .i64 0)) (fun _ h_ => h_.1))) hb); replace BK854 := Aside0.mk (blk_below (g := gb854) (o := .cells #[.int .i64 a0_0, .int .i64 a0_1, .int .i64 a0_2, .int .i64 a0_3, .int .i64 a0_4, .int .i64 a0_5, .int .i64 a0_6, .int .i64 a0_7, .int .i64 a0_8, .slice A0_9 l0_9.length c0_9] 66 (0, 0)) (by (with_reducible repeat (first | refine blk_drewN ?_ _ | refine blk_drew ?_ | refine blk_alloc ?_ _)); refine blk_far ?_ NB854_861.out _; (with_reducible repeat (first | refine blk_drewN ?_ _ | refine blk_drew ?_ | refine blk_alloc ?_ _)); refine blk_far ?_ NB854_861.out _; (with_reducible repeat (first | refine blk_drewN ?_ _ | refine blk_drew ?_ | refine blk_alloc ?_ _)); refine blk_far ?_ NB854_861.out _; (with_reducible repeat (first | refine blk_drewN ?_ _ | refine blk_drew ?_ | refine blk_alloc ?_ _)); refine blk_far ?_ NB854_861.out _; (with_reducible repeat (first | refine blk_drewN ?_ _ | refine blk_drew ?_ | refine blk_alloc ?_ _)); refine blk_far ?_ NB854_861.out _; (with_reducible repeat (first | refine blk_drewN ?_ _ | refine blk_drew ?_ | refine blk_alloc ?_ _)); exact BK854.out) hb); replace BK861 := Aside0.mk (blk_below (g := gb861) (o := .cells #[.int .i64 (rd t855 x7_1), .int .i64 (rd t855 (ji10)), .int .i64 0, .int .i64 0, .int .i64 0] 81 (0, 0)) (by (with_reducible repeat (first | refine blk_drewN ?_ _ | refine blk_drew ?_ | refine blk_alloc ?_ _)); refine blk_put (cs := #[.int .i64 (rd t855 x7_1), .int .i64 (rd t855 (ji10)), .int .i64 0, .int .i64 0, .int .i64 0]) ?_ 4 _ rfl; (with_reducible repeat (first | refine blk_drewN ?_ _ | refine blk_drew ?_ | refine blk_alloc ?_ _)); refine blk_put (cs := #[.int .i64 (rd t855 x7_1), .int .i64 (rd t855 (ji10)), .int .i64 0, .int .i64 0, .int .i64 0]) ?_ 3 _ rfl; (with_reducible repeat (first | refine blk_drewN ?_ _ | refine blk_drew ?_ | refine blk_alloc ?_ _)); refine blk_put (cs := #[.int .i64 (rd t855 x7_1), .int .i64 (rd t855 (ji10)), .int .i64 0, .int .i64 0, .int .i64 0]) ?_ 2 _ rfl; (with_reducible repeat (first | refine blk_drewN ?_ _ | refine blk_drew ?_ | refine blk_alloc ?_ _)); refine blk_put (cs := #[.int .i64 (rd t855 x7_1), .int .i64 0, .int .i64 0, .int .i64 0, .int .i64 0]) ?_ 1 _ rfl; (with_reducible repeat (first | refine blk_drewN ?_ _ | refine blk_drew ?_ | refine blk_alloc ?_ _)); refine blk_put (cs := #[.int .i64 0, .int .i64 0, .int .i64 0, .int .i64 0, .int .i64 0]) ?_ 0 _ rfl; (with_reducible repeat (first | refine blk_drewN ?_ _ | refine blk_drew ?_ | refine blk_alloc ?_ _)); exact BK861.out) hb); replace HB := bS hb; (try clear hb); (try clear hb2); (try clear hk); (try clear hi); obtain ⟨_,_,_,_,_,_,_,_,_,_,_,_,_,_,_,_,_,_,_,_⟩ := blk10 BK854; obtain ⟨_,_,_,_,_,_,_,_,_,_⟩ := blk5 BK861) | ((with_reducible refine gate_callee (f := 39) rfl ?_); refine goesL_ (some 60) rfl rfl Try.func39 (by kernel_rfl) rfl #[.agg #[.int .i64 a0_8, .slice A0_9 l0_9.length c0_9], .int .i64 (rd t855 (ji10)), .int .i64 a0_6] rfl (by (try simp only [List.map_toArray, List.map_cons, List.map_nil]); first | done | (simp only [hji10]; rfl) | rfl | (simp only [List.length_drop, List.length_take]; rfl)) ?_; (with_reducible refine (tenorref6_Adjust.calls k1 a0_8 _ _ l0_9 (rd t855 (ji10)) a0_6 t864 t865 _ ?side1 ?side2 A14.out).mono ?_); (case side1 => exact sC HR0_9); (case side2 => exact HC0_9.out); rintro e w89 ⟨rfl, hb⟩; refine ⟨_, rfl, ?_⟩; replace HO_4 := Aside0.mk (Kd.R_below (bR HO_4) hb); replace HO_6 := Aside0.mk (Kd.R_below (bR HO_6) hb); replace BK854 := bK BK854 hb; replace BK861 := bK BK861 hb; replace HB := bS hb; (try clear hb); (try clear hb2); (try clear hk); (try clear hi)))
          go_ret2
          exact ⟨_, by first | rfl | (simp [errW_none, errW_some] <;> rfl) | (simp only [← hji10]; first | rfl | (simp [errW_none, errW_some] <;> rfl)) | (simp [*, errW_none, errW_some] <;> rfl), by first | exact Kd.R_nil _ _ _ _ _ | exact Kd.N_nil _ _ _ _ _ | exact Kd.V_nil _ _ _ _ _ | exact Kd.Q_nil _ _ _ _ _ | exact Kd.S_nil _ _ _ _ _, bB⟩
        ·
         rw [if_neg c13] at H
         have c13b0 : (t863 == 0) = false := beq_eq_false_iff_ne.mpr c13
         have c13b1 : (t863 != 0) = true := bne_iff_ne.mpr c13
         simp only [Option.some.injEq, Prod.mk.injEq] at H
         obtain ⟨rfl, rfl⟩ := H
         try go_wp2_with (first | ((with_reducible refine gG 39 ?_); refine goA (some 47) Try.func39 #[.agg #[.int .i64 a0_8, .slice A0_9 l0_9.length c0_9], .int .i64 (rd t855 x7_1), .int .i64 a0_6] ?_; (with_reducible refine (tenorref6_Adjust.calls k1 a0_8 _ _ l0_9 (rd t855 x7_1) a0_6 t862 t863 _ ?side1 ?side2 A12.out).mono ?_); (case side1 => exact Kd.C_below HR0_9.out bB); (case side2 => exact HC0_9.out); rintro e w101 ⟨rfl, hb⟩; refine ⟨_, rfl, ?_⟩; replace HO_4 := Aside0.mk (Kd.R_below (by (with_reducible repeat (first | apply Kd.R_alloc | apply Kd.R_drewN | apply Kd.R_drew)); exact (Kd.R_mono (Kd.R_far (p := ⟨gb861, 4, none⟩) (Kd.R_far (p := ⟨gb861, 3, none⟩) (Kd.R_far (p := ⟨gb861, 2, none⟩) (Kd.R_far (p := ⟨gb861, 1, none⟩) (Kd.R_far (p := ⟨gb861, 0, none⟩) (Kd.R_types HO_4.out BK861.out (by decide)) (fun _ hk => hk.2) (.int .i64 (rd t855 x7_1))) (fun _ hk => hk.2) (.int .i64 (rd t855 (ji10)))) (fun _ hk => hk.2) (.int .i64 0)) (fun _ hk => hk.2) (.int .i64 0)) (fun _ hk => hk.2) (.int .i64 0)) (fun _ h_ => h_.1))) hb); replace HO_6 := Aside0.mk (Kd.R_below (by (with_reducible repeat (first | apply Kd.R_alloc | apply Kd.R_drewN | apply Kd.R_drew)); exact (Kd.R_mono (Kd.R_far (p := ⟨gb861, 4, none⟩) (Kd.R_far (p := ⟨gb861, 3, none⟩) (Kd.R_far (p := ⟨gb861, 2, none⟩) (Kd.R_far (p := ⟨gb861, 1, none⟩) (Kd.R_far (p := ⟨gb861, 0, none⟩) (Kd.R_mono HO_6.out (fun k_ hk => (⟨hk, hk.2⟩ : _ ∧ k_ ≠ gb861))) (fun _ hk => hk.2) (.int .i64 (rd t855 x7_1))) (fun _ hk => hk.2) (.int .i64 (rd t855 (ji10)))) (fun _ hk => hk.2) (.int .i64 0)) (fun _ hk => hk.2) (.int .i64 0)) (fun _ hk => hk.2) (.int .i64 0)) (fun _ h_ => h_.1))) hb); replace BK854 := Aside0.mk (blk_below (g := gb854) (o := .cells #[.int .i64 a0_0, .int .i64 a0_1, .int .i64 a0_2, .int .i64 a0_3, .int .i64 a0_4, .int .i64 a0_5, .int .i64 a0_6, .int .i64 a0_7, .int .i64 a0_8, .slice A0_9 l0_9.length c0_9] 66 (0, 0)) (by (with_reducible repeat (first | refine blk_drewN ?_ _ | refine blk_drew ?_ | refine blk_alloc ?_ _)); refine blk_far ?_ NB854_861.out _; (with_reducible repeat (first | refine blk_drewN ?_ _ | refine blk_drew ?_ | refine blk_alloc ?_ _)); refine blk_far ?_ NB854_861.out _; (with_reducible repeat (first | refine blk_drewN ?_ _ | refine blk_drew ?_ | refine blk_alloc ?_ _)); refine blk_far ?_ NB854_861.out _; (with_reducible repeat (first | refine blk_drewN ?_ _ | refine blk_drew ?_ | refine blk_alloc ?_ _)); refine blk_far ?_ NB854_861.out _; (with_reducible repeat (first | refine blk_drewN ?_ _ | refine blk_drew ?_ | refine blk_alloc ?_ _)); refine blk_far ?_ NB854_861.out _; (with_reducible repeat (first | refine blk_drewN ?_ _ | refine blk_drew ?_ | refine blk_alloc ?_ _)); exact BK854.out) hb); replace BK861 := Aside0.mk (blk_below (g := gb861) (o := .cells #[.int .i64 (rd t855 x7_1), .int .i64 (rd t855 (ji10)), .int .i64 0, .int .i64 0, .int .i64 0] 81 (0, 0)) (by (with_reducible repeat (first | refine blk_drewN ?_ _ | refine blk_drew ?_ | refine blk_alloc ?_ _)); refine blk_put (cs := #[.int .i64 (rd t855 x7_1), .int .i64 (rd t855 (ji10)), .int .i64 0, .int .i64 0, .int .i64 0]) ?_ 4 _ rfl; (with_reducible repeat (first | refine blk_drewN ?_ _ | refine blk_drew ?_ | refine blk_alloc ?_ _)); refine blk_put (cs := #[.int .i64 (rd t855 x7_1), .int .i64 (rd t855 (ji10)), .int .i64 0, .int .i64 0, .int .i64 0]) ?_ 3 _ rfl; (with_reducible repeat (first | refine blk_drewN ?_ _ | refine blk_drew ?_ | refine blk_alloc ?_ _)); refine blk_put (cs := #[.int .i64 (rd t855 x7_1), .int .i64 (rd t855 (ji10)), .int .i64 0, .int .i64 0, .int .i64 0]) ?_ 2 _ rfl; (with_reducible repeat (first | refine blk_drewN ?_ _ | refine blk_drew ?_ | refine blk_alloc ?_ _)); refine blk_put (cs := #[.int .i64 (rd t855 x7_1), .int .i64 0, .int .i64 0, .int .i64 0, .int .i64 0]) ?_ 1 _ rfl; (with_reducible repeat (first | refine blk_drewN ?_ _ | refine blk_drew ?_ | refine blk_alloc ?_ _)); refine blk_put (cs := #[.int .i64 0, .int .i64 0, .int .i64 0, .int .i64 0, .int .i64 0]) ?_ 0 _ rfl; (with_reducible repeat (first | refine blk_drewN ?_ _ | refine blk_drew ?_ | refine blk_alloc ?_ _)); exact BK861.out) hb); replace HB := bS hb; (try clear hb); (try clear hb2); (try clear hk); (try clear hi)))
         go_ret2
         exact ⟨_, by first | rfl | (simp [errW_none, errW_some] <;> rfl) | (simp only [← hji10]; first | rfl | (simp [errW_none, errW_some] <;> rfl)) | (simp [*, errW_none, errW_some] <;> rfl), by first | exact Kd.R_nil _ _ _ _ _ | exact Kd.N_nil _ _ _ _ _ | exact Kd.V_nil _ _ _ _ _ | exact Kd.Q_nil _ _ _ _ _ | exact Kd.S_nil _ _ _ _ _, bB⟩
       ·
        rw [if_neg c11] at H
        exact absurd H (by simp)
      ·
       rw [if_neg c9] at H
       exact absurd H (by simp)
     ·
      rw [if_neg c8] at H
      exact absurd H (by simp)
    ·
     rw [if_neg c7] at H
     have c7b0 : decide ((wrap64 (x7_1 + 1)) < (t855.length : Int)) = false := decide_eq_false c7
     clear c7
     simp only [Option.some.injEq, Prod.mk.injEq] at H
     obtain ⟨rfl, rfl⟩ := H
     obtain ⟨Ao102, co102, eo102⟩ := Kd.R_slice HO_4.out
     subst eo102
     go_wp2
     go_ret2
     exact ⟨_, eW, (bR HO_6), bB⟩
 ·
  rw [if_neg c3] at H
  have c3b0 : (t858 == 0) = false := beq_eq_false_iff_ne.mpr c3
  have c3b1 : (t858 != 0) = true := bne_iff_ne.mpr c3
  simp only [Option.some.injEq, Prod.mk.injEq] at H
  obtain ⟨rfl, rfl⟩ := H
  go_enter Try.func55, Try.ntmps55
  go_wp2_with (first | ((with_reducible refine gate_dst (N := 1) rfl ?_); refine box_event ?hg (N := 1) ?hd (cs := #[.int .i64 a0_0, .int .i64 a0_1, .int .i64 a0_2, .int .i64 a0_3, .int .i64 a0_4, .int .i64 a0_5, .int .i64 a0_6, .int .i64 a0_7, .int .i64 a0_8, .slice A0_9 l0_9.length c0_9]) (t := 66) ?hr ?_; (case hd => rfl); (case hg => rfl); (case hr => first | (go_simp; done) | (go_simp; rfl)); intro gb854 hg w103 hbox hb; have BK854 := Aside0.mk (hbox); have GW854 := bG hg; have GE854 := bG hg; replace HB := bS hb; clear hb hbox hg; obtain ⟨_,_,_,_,_,_,_,_,_,_,_,_,_,_,_,_,_,_,_,_⟩ := blk10 BK854) | ((with_reducible refine gG 51 ?_); refine goA (some 17) Try.func51 #[.agg #[.int .i64 a0_0, .int .i64 a0_1, .int .i64 a0_2, .int .i64 a0_3, .int .i64 a0_4, .int .i64 a0_5, .int .i64 a0_6, .int .i64 a0_7, .int .i64 a0_8, .slice A0_9 l0_9.length c0_9]] ?_; (with_reducible refine (tenorref8_Dates.calls k a0_0 a0_1 a0_2 a0_3 a0_4 a0_5 a0_6 a0_7 a0_8 _ _ l0_9 t855 t858 _ ?side1 ?side2 A2.out).mono ?_); (case side1 => exact sC HR0_9); (case side2 => exact HC0_9.out); rintro e w105 ⟨v856, rfl, ho0, hb⟩; refine ⟨_, rfl, ?_⟩; have HO857 := Aside0.mk (Kd.R_lower ho0 (below_size bB)); replace BK854 := bK BK854 hb; replace HB := bS hb; (try clear hb); (try clear hb2); (try clear hk); (try clear hi); (try clear ho0)))
  go_ret2
  exact ⟨_, eW, by first | exact Kd.R_nil _ _ _ _ _ | exact Kd.N_nil _ _ _ _ _ | exact Kd.V_nil _ _ _ _ _ | exact Kd.Q_nil _ _ _ _ _ | exact Kd.S_nil _ _ _ _ _, bB⟩
end Go.Proofs.Ytoncignjcgjhhaa.Q
namespace Go.Proofs.Ytoncignjcgjhhaa.Q
open Go.RowKit Go.Proofs.YtoncignjcgjhhaaW.PrintWords Go.Proofs.YtoncignjcgjhhaaW.PrintLast Go.Proofs.YtoncignjcgjhhaaW.PrintMore
attribute [local go_sem] max2_int min2_int max_two min_two max_three min_three max_four min_four   -- for this text's walks alone
theorem eqA81 (d : Nat) (w : World) (x0 y0 x1 y1 x2 y2 x3 y3 x4 y4 : Int) :
  (Op.equalIn (d + 2) 81 (.agg #[.int .i64 x0, .int .i64 x1, .int .i64 x2, .int .i64 x3, .int .i64 x4]) (.agg #[.int .i64 y0, .int .i64 y1, .int .i64 y2, .int .i64 y3, .int .i64 y4])).run Try.prog w = .ok (x0 == y0 && (x1 == y1 && (x2 == y2 && (x3 == y3 && (x4 == y4))))) w := by
 refine eqA_of Try.underlying81 (by kernel_rfl) ?_
 refine eqf_cons (by rfl) (by go_simp; rfl) (by go_simp; rfl) (by go_simp) ?_
 refine eqf_cons (by rfl) (by go_simp; rfl) (by go_simp; rfl) (by go_simp) ?_
 refine eqf_cons (by rfl) (by go_simp; rfl) (by go_simp; rfl) (by go_simp) ?_
 refine eqf_cons (by rfl) (by go_simp; rfl) (by go_simp; rfl) (by go_simp) ?_
 exact eqf_last (by rfl) (by go_simp; rfl) (by go_simp; rfl) (by go_simp)
end Go.Proofs.Ytoncignjcgjhhaa.Q
namespace Go.Proofs.Ytoncignjcgjhhaa.Q
open Go.RowKit Go.Proofs.YtoncignjcgjhhaaW.PrintWords Go.Proofs.YtoncignjcgjhhaaW.PrintLast Go.Proofs.YtoncignjcgjhhaaW.PrintMore
attribute [local go_sem] max2_int min2_int max_two min_two max_three min_three max_four min_four   -- for this text's walks alone
attribute [local go_sem high] eqA81
def tenorref8_SamePeriods.l0 : Nat → List (S81) → List (S81) → Int → Option (Bool)
  | 0, _, _, _ => none
  | k + 1, x0, x1, x5 => if x5 < (x0.length : Int) then (if 0 ≤ x5 then (if x5 < (x1.length : Int) then (if (!(((rd_T81 x0 x5).f0) == ((rd_T81 x1 x5).f0)) || (!(((rd_T81 x0 x5).f1) == ((rd_T81 x1 x5).f1)) || (!(((rd_T81 x0 x5).f2) == ((rd_T81 x1 x5).f2)) || (!(((rd_T81 x0 x5).f3) == ((rd_T81 x1 x5).f3)) || (!(((rd_T81 x0 x5).f4) == ((rd_T81 x1 x5).f4))))))) = true then (some false) else (tenorref8_SamePeriods.l0 k x0 x1 (wrap64 (x5 + 1)))) else (none)) else (none)) else (some true)
def tenorref8_SamePeriods.f (k : Nat) (l0 : List (S81)) (l1 : List (S81)) : Option (Bool) := if (l0.length : Int) = (l1.length : Int) then (tenorref8_SamePeriods.l0 k l0 l1 0) else (some false)
set_option maxHeartbeats 8000000 in
set_option maxRecDepth 100000 in
theorem tenorref8_SamePeriods.calls (k : Nat) (A0 : Option Addr) (c0 : Nat) (l0 : List (S81)) (A1 : Option Addr) (c1 : Nat) (l1 : List (S81)) (r : Bool) (w : World) (hr0 : Kd.C k81 w A0 l0.length l0) (hc0 : l0.length ≤ c0) (hr1 : Kd.C k81 w A1 l1.length l1) (hc1 : l1.length ≤ c1) (h : tenorref8_SamePeriods.f k l0 l1 = some r) :
  Calls Try.prog 56 #[.slice A0 l0.length c0, .slice A1 l1.length c1] w fun e w' => e = .returned (.bool r) ∧ Drawn0 w w' := by
 have hu81 := Try.underlying81;have HR0 := Aside0.mk hr0;have HC0 := Aside0.mk hc0;clear hr0 hc0;have HR1 := Aside0.mk hr1;have HC1 := Aside0.mk hc1;clear hr1 hc1
 have H : (if (l0.length : Int) = (l1.length : Int) then (tenorref8_SamePeriods.l0 k l0 l1 0) else (some false)) = some r := h
 clear h
 by_cases c3 : (l0.length : Int) = (l1.length : Int)
 ·
  rw [if_pos c3] at H
  have c3b0 : ((l0.length : Int) == (l1.length : Int)) = true := beq_iff_eq.mpr c3
  have c3b1 : ((l0.length : Int) != (l1.length : Int)) = false := bne_eq_false_iff_eq.mpr c3
  have c3b2 : (l0.length == l1.length) = true := by first | simpa using c3 | (simp at c3 ⊢; omega)
  clear c3;have H' := Aside0.mk H;clear H
  go_enter Try.func56, Try.ntmps56
  go_wp2
  repeat (go_quiet (fail); try go_wp2)
  go_loopg [5] k (fun kq v5 w' => ∃ (x5_1 : Int), v5 = .int .i64 x5_1 ∧ Aside0 (tenorref8_SamePeriods.l0 kq l0 l1 x5_1 = some r) ∧ Aside0 (kq ≤ k) ∧ Drawn0 w w')
  case atStart => exact ⟨(0), eS, H', ⟨Nat.le_refl _⟩, eD⟩
  case round =>
   clear H'
   obtain ⟨x5_1, rfl, HA, HK1, ⟨m1, rfl⟩⟩ := hrel
   cases gk with
   | zero => exact absurd HA.out (by simp [tenorref8_SamePeriods.l0])
   | succ k1 =>
    have H := HA.out;clear HA
    simp only [tenorref8_SamePeriods.l0] at H
    by_cases c4 : x5_1 < (l0.length : Int)
    ·
     rw [if_pos c4] at H
     have c4b0 : decide (x5_1 < (l0.length : Int)) = true := decide_eq_true c4
     clear c4
     by_cases c5 : 0 ≤ x5_1
     ·
      rw [if_pos c5] at H
      have c5b0 : decide (0 ≤ x5_1) = true := decide_eq_true c5
      clear c5
      by_cases c6 : x5_1 < (l1.length : Int)
      ·
       rw [if_pos c6] at H
       have c6b0 : decide (x5_1 < (l1.length : Int)) = true := decide_eq_true c6
       clear c6
       by_cases c7 : (!(((rd_T81 l0 x5_1).f0) == ((rd_T81 l1 x5_1).f0)) || (!(((rd_T81 l0 x5_1).f1) == ((rd_T81 l1 x5_1).f1)) || (!(((rd_T81 l0 x5_1).f2) == ((rd_T81 l1 x5_1).f2)) || (!(((rd_T81 l0 x5_1).f3) == ((rd_T81 l1 x5_1).f3)) || (!(((rd_T81 l0 x5_1).f4) == ((rd_T81 l1 x5_1).f4))))))) = true
       ·
        rw [if_pos c7] at H
        have c7b0 : (!(((rd_T81 l0 x5_1).f0) == ((rd_T81 l1 x5_1).f0)) || (!(((rd_T81 l0 x5_1).f1) == ((rd_T81 l1 x5_1).f1)) || (!(((rd_T81 l0 x5_1).f2) == ((rd_T81 l1 x5_1).f2)) || (!(((rd_T81 l0 x5_1).f3) == ((rd_T81 l1 x5_1).f3)) || (!(((rd_T81 l0 x5_1).f4) == ((rd_T81 l1 x5_1).f4))))))) = true := c7
        clear c7
        obtain rfl := Option.some.inj H
        have p874 : 0 ≤ (x5_1 : Int) := of_decide_eq_true tA
        have q874 : x5_1 < (l0.length : Int) := of_decide_eq_true tA
        obtain ⟨ad874, e874, hx874_0, hx874_1, hx874_2, hx874_3, hx874_4⟩ := at_T81 HR0.out x5_1 p874 q874
        cases e874
        replace p874 := eq_true p874;replace q874 := eq_true q874
        have p875 : 0 ≤ (x5_1 : Int) := of_decide_eq_true tA
        have q875 : x5_1 < (l1.length : Int) := of_decide_eq_true tA
        obtain ⟨ad875, e875, hx875_0, hx875_1, hx875_2, hx875_3, hx875_4⟩ := at_T81 HR1.out x5_1 p875 q875
        cases e875
        replace p875 := eq_true p875;replace q875 := eq_true q875
        go_wp2
        repeat (go_quiet (fail); try go_wp2)
        go_ret
        exact ⟨eS, eD⟩
       ·
        rw [if_neg c7] at H
        have c7b0 : (!(((rd_T81 l0 x5_1).f0) == ((rd_T81 l1 x5_1).f0)) || (!(((rd_T81 l0 x5_1).f1) == ((rd_T81 l1 x5_1).f1)) || (!(((rd_T81 l0 x5_1).f2) == ((rd_T81 l1 x5_1).f2)) || (!(((rd_T81 l0 x5_1).f3) == ((rd_T81 l1 x5_1).f3)) || (!(((rd_T81 l0 x5_1).f4) == ((rd_T81 l1 x5_1).f4))))))) = false := by simpa using c7
        clear c7;have H' := Aside0.mk H;clear H
        have p874 : 0 ≤ (x5_1 : Int) := of_decide_eq_true tA
        have q874 : x5_1 < (l0.length : Int) := of_decide_eq_true tA
        obtain ⟨ad874, e874, hx874_0, hx874_1, hx874_2, hx874_3, hx874_4⟩ := at_T81 HR0.out x5_1 p874 q874
        cases e874
        replace p874 := eq_true p874;replace q874 := eq_true q874
        have p875 : 0 ≤ (x5_1 : Int) := of_decide_eq_true tA
        have q875 : x5_1 < (l1.length : Int) := of_decide_eq_true tA
        obtain ⟨ad875, e875, hx875_0, hx875_1, hx875_2, hx875_3, hx875_4⟩ := at_T81 HR1.out x5_1 p875 q875
        cases e875
        replace p875 := eq_true p875;replace q875 := eq_true q875
        go_wp2
        repeat (go_quiet (fail); try go_wp2)
        go_roundg k1
        case measure => have := HK1.out; omega
        case rel => exact ⟨(wrap64 (x5_1 + 1)), eS, H', ⟨by have := HK1.out; omega⟩, eD⟩
      ·
       rw [if_neg c6] at H
       exact absurd H (by simp)
     ·
      rw [if_neg c5] at H
      exact absurd H (by simp)
    ·
     rw [if_neg c4] at H
     have c4b0 : decide (x5_1 < (l0.length : Int)) = false := decide_eq_false c4
     clear c4
     obtain rfl := Option.some.inj H
     go_wp2
     repeat (go_quiet (fail); try go_wp2)
     go_ret
     exact ⟨eS, eD⟩
 ·
  rw [if_neg c3] at H
  have c3b0 : ((l0.length : Int) == (l1.length : Int)) = false := beq_eq_false_iff_ne.mpr c3
  have c3b1 : ((l0.length : Int) != (l1.length : Int)) = true := bne_iff_ne.mpr c3
  have c3b2 : (l0.length == l1.length) = false := by first | simpa using c3 | (simp at c3 ⊢; omega)
  obtain rfl := Option.some.inj H
  go_enter Try.func56, Try.ntmps56
  go_wp2
  repeat (go_quiet (fail); try go_wp2)
  go_ret
  exact ⟨eS, eD⟩
end Go.Proofs.Ytoncignjcgjhhaa.Q
namespace Go.Proofs.Ytoncignjcgjhhaa.S
open Go.RowKit Go.Proofs.YtoncignjcgjhhaaW.PrintWords Go.Proofs.YtoncignjcgjhhaaW.PrintLast Go.Proofs.YtoncignjcgjhhaaW.PrintMore
open Go.Proofs.Ytoncignjcgjhhaa.Q
open Go.Proofs.Ytoncignjcgjhhaa.L (w64 td tm tm0)
theorem rP_l0 (s : Sp) (hlag : L.i64 s.lag) (l : List Int) (hl : l.length ≤ 5000) : ∀ (f i : Nat) (acc : List S81), l.length - 1 - i = f → i + 1 ≤ l.length → acc.length = i →
  Ev (fun q => tenorref8_Periods.l0 q l acc (i : Int) s.a s.b s.n s.u s.st s.ro s.cv s.lag s.we s.l) (s.perF l f i acc)
 | 0, i, acc, hf, hi, ha => by
  have c4 : ¬ ((i + 1 : Nat) : Int) < (l.length : Int) := by omega
  have hw1 : wrap64 ((i : Int) + 1) = ((i + 1 : Nat) : Int) := by rw [w64 (by omega) (by omega)]; push_cast; rfl
  refine Ev.step (f := fun _ => some (acc, (0 : Int))) (fun q => ?_) (Ev.now _)
  rw [tenorref8_Periods.l0, hw1, if_neg c4]
 | f + 1, i, acc, hf, hi, ha => by
  have c0 : (0 : Int) ≤ (i : Int) := by omega
  have c2 : (i : Int) < (l.length : Int) := by omega
  have c3 : (0 : Int) ≤ ((i + 1 : Nat) : Int) := by omega
  have c4 : ((i + 1 : Nat) : Int) < (l.length : Int) := by omega
  have c5 : acc.length < 3518437208883 := by omega
  have hA : ∀ x, Ev (fun k => tenorref6_Adjust.f k s.we s.l x s.cv) (s.adj x) := fun x => R.Adjust s.we s.l x s.cv
  have hD : ∀ x, Ev (fun k => tenorref6_Add.f k s.we s.l x s.lag) (s.add x) := fun x => R.Add s.we s.l x s.lag hlag
  have hrec := fun p => rP_l0 s hlag l hl f (i + 1) (acc ++ [p]) (by omega) (by omega) (by rw [List.length_append, ha]; rfl)
  have hw1 : wrap64 ((i : Int) + 1) = ((i + 1 : Nat) : Int) := by rw [w64 (by omega) (by omega)]; push_cast; rfl
  refine Ev.step (fun q => by rw [tenorref8_Periods.l0, hw1, if_pos c4, if_pos c0, if_pos c2, if_pos c3]) (Ev.bind (hA _) ?_)
  unfold Sp.perF Sp.per1
  by_cases e1 : (s.adj (rd l (i : Int))).2 = 0
  ·
   rw [if_pos e1]
   refine Ev.congr (fun q => if_pos e1) (Ev.bind (hA _) ?_)
   by_cases e2 : (s.adj (rd l ((i + 1 : Nat) : Int))).2 = 0
   ·
    rw [if_pos e2]
    refine Ev.congr (fun q => if_pos e2) ?_
    by_cases e3 : s.lag > 0
    ·
     rw [if_pos e3]
     refine Ev.congr (fun q => if_pos e3) (Ev.bind (hD _) ?_)
     by_cases e4 : (s.add (s.adj (rd l ((i + 1 : Nat) : Int))).1).2 = 0
     ·
      rw [if_pos e4, if_pos rfl]
      exact Ev.congr (fun q => by rw [if_pos e4, if_pos c5]) (hrec _)
     ·
      rw [if_neg e4, if_neg e4]
      exact Ev.congr (fun q => if_neg e4) (Ev.now _)
    ·
     rw [if_neg e3, if_pos rfl]
     exact Ev.congr (fun q => by rw [if_neg e3, if_pos c5]) (hrec _)
   ·
    rw [if_neg e2, if_neg e2]
    exact Ev.congr (fun q => if_neg e2) (Ev.now _)
  ·
   rw [if_neg e1, if_neg e1]
   exact Ev.congr (fun q => if_neg e1) (Ev.now _)
theorem rPeriods (s : Sp) : Ev (fun q => tenorref8_Periods.f q s.a s.b s.n s.u s.st s.ro s.cv s.lag s.we s.l) s.periods := by
 refine Ev.congr (fun q => by unfold tenorref8_Periods.f; rfl) (Ev.bind (rDates s) ?_)
 unfold Sp.periods
 by_cases h : s.dates.2 = 0
 ·
  obtain ⟨h2, h3⟩ := dates_two h
  obtain ⟨hc, _⟩ := dates_ok h
  have hlag := (chk_ok hc).2.1.2.2.2.2.2.2.2
  rw [if_pos h]
  refine Ev.congr (fun q => if_pos h) ?_
  exact rP_l0 s (by unfold L.i64; omega) _ (by omega) _ 0 [] (by omega) (by omega) rfl
 ·
  rw [if_neg h]
  exact Ev.congr (fun q => if_neg h) (Ev.now _)
theorem perF_len (s : Sp) (l : List Int) : ∀ (f i : Nat) (acc : List S81), (s.perF l f i acc).1.length ≤ acc.length + f
 | 0, i, acc => by rw [Sp.perF]; exact Nat.le_refl _
 | f + 1, i, acc => by
  rw [Sp.perF]
  split
  ·
   refine Nat.le_trans (perF_len s l f (i + 1) _) ?_
   rw [List.length_append]; simp only [List.length_cons, List.length_nil]; omega
  ·
   exact Nat.zero_le _
theorem periods_len (s : Sp) : s.periods.1.length ≤ 5000 := by
 unfold Sp.periods
 by_cases h : s.dates.2 = 0
 ·
  rw [if_pos h]
  have h1 := perF_len s s.dates.1 (s.dates.1.length - 1) 0 []
  have h2 := (dates_two h).2
  simp only [List.length_nil] at h1
  omega
 ·
  rw [if_neg h]; exact Nat.zero_le _
theorem samePer_l0 (l : List S81) (hl : l.length ≤ 5000) : ∀ (f i : Nat), l.length - i = f → i ≤ l.length → Ev (fun k => tenorref8_SamePeriods.l0 k l l (i : Int)) true
 | 0, i, hf, hi => by
  refine Ev.step (f := fun _ => some true) (fun k => ?_) (Ev.now _)
  rw [tenorref8_SamePeriods.l0, if_neg (by omega)]
 | f + 1, i, hf, hi => by
  have c1 : (i : Int) < (l.length : Int) := by omega
  have c2 : (0 : Int) ≤ (i : Int) := by omega
  have hrec := samePer_l0 l hl f (i + 1) (by omega) (by omega)
  have hw : wrap64 ((i : Int) + 1) = ((i + 1 : Nat) : Int) := by rw [w64 (by omega) (by omega)]; push_cast; rfl
  refine Ev.step (fun k => ?_) hrec
  rw [tenorref8_SamePeriods.l0, if_pos c1, if_pos c2, if_pos c1, hw, if_neg (by simp)]
theorem samePer (l : List S81) (hl : l.length ≤ 5000) : Ev (fun k => tenorref8_SamePeriods.f k l l) true := by
  refine Ev.congr (fun k => by unfold tenorref8_SamePeriods.f; rw [if_pos rfl]; rfl) (samePer_l0 l hl l.length 0 (by omega) (by omega))
end Go.Proofs.Ytoncignjcgjhhaa.S
