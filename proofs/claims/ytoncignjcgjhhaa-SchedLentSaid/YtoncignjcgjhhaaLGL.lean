/- Contracts and facts of functions of the program (calendar, dates and their documents), joined in one text by a program of this session. No condition but what each theorem states. -/
import Derived.Test.YtoncignjcgjhhaaLGA
import Derived.Test.YtoncignjcgjhhaaLGK
import Derived.Test.YtoncignjcgjhhaaLGG
import Derived.Test.YtoncignjcgjhhaaLGJ
set_option linter.unusedVariables false
set_option linter.unusedSimpArgs false
namespace Go.Proofs.Ytoncignjcgjhhaa.Q
open Go.RowKit Go.Proofs.YtoncignjcgjhhaaW.PrintWords Go.Proofs.YtoncignjcgjhhaaW.PrintLast Go.Proofs.YtoncignjcgjhhaaW.PrintMore
attribute [local go_sem] max2_int min2_int max_two min_two max_three min_three max_four min_four   -- for this text's walks alone
mutual
def tenorref8_Dates.j0 : Nat → Bool → Int → Int → Int → Int → Int → Int → Int → Int → Int → Int → Int → Int → List (S63) → Option (List Int × Int)
  | 0, _, _, _, _, _, _, _, _, _, _, _, _, _, _ => none
  | k + 1, x5, x6, x7, x8, x818000, x818001, x818002, x818003, x818004, x818005, x818006, x818007, x818008, x818009 => tenorref8_Dates.l0 k x5 x6 x7 x8 ([] : List Int) 1 x818000 x818001 x818002 x818003 x818004 x818005 x818006 x818007 x818008 x818009
def tenorref8_Dates.j3 : Nat → Bool → List Int → Bool → Int → Int → Int → Int → Int → Int → Int → Int → Int → List (S63) → Option (List Int × Int)
  | 0, _, _, _, _, _, _, _, _, _, _, _, _, _ => none
  | k + 1, x5, x9, x10, x818000, x818001, x818002, x818003, x818004, x818005, x818006, x818007, x818008, x818009 => if x818004 = 2 then (if x10 = true then (tenorref8_Dates.j4 k x5 x9 false x818000 x818001 x818002 x818003 x818004 x818005 x818006 x818007 x818008 x818009) else (tenorref8_Dates.j4 k x5 x9 (decide ((x9.length : Int) > 0)) x818000 x818001 x818002 x818003 x818004 x818005 x818006 x818007 x818008 x818009)) else (if x818004 = 4 then (if x10 = true then (tenorref8_Dates.j4 k x5 x9 false x818000 x818001 x818002 x818003 x818004 x818005 x818006 x818007 x818008 x818009) else (tenorref8_Dates.j4 k x5 x9 (decide ((x9.length : Int) > 0)) x818000 x818001 x818002 x818003 x818004 x818005 x818006 x818007 x818008 x818009)) else (tenorref8_Dates.j4 k x5 x9 false x818000 x818001 x818002 x818003 x818004 x818005 x818006 x818007 x818008 x818009))
def tenorref8_Dates.j4 : Nat → Bool → List Int → Bool → Int → Int → Int → Int → Int → Int → Int → Int → Int → List (S63) → Option (List Int × Int)
  | 0, _, _, _, _, _, _, _, _, _, _, _, _, _ => none
  | k + 1, x5, x9, x93, x818000, x818001, x818002, x818003, x818004, x818005, x818006, x818007, x818008, x818009 => if x93 = true then (if 0 ≤ (wrap64 ((x9.length : Int) - 1)) then (if (wrap64 ((x9.length : Int) - 1)) ≤ (x9.length : Int) then (tenorref8_Dates.j5 k x5 (x9.take ((wrap64 ((x9.length : Int) - 1)) : Int).toNat) x818000 x818001 x818002 x818003 x818004 x818005 x818006 x818007 x818008 x818009) else (none)) else (none)) else (tenorref8_Dates.j5 k x5 x9 x818000 x818001 x818002 x818003 x818004 x818005 x818006 x818007 x818008 x818009)
def tenorref8_Dates.j5 : Nat → Bool → List Int → Int → Int → Int → Int → Int → Int → Int → Int → Int → List (S63) → Option (List Int × Int)
  | 0, _, _, _, _, _, _, _, _, _, _, _, _ => none
  | k + 1, x5, x9, x818000, x818001, x818002, x818003, x818004, x818005, x818006, x818007, x818008, x818009 => tenorref8_Dates.l1 k x5 x9 (([x818000] : List Int)) 0 x818000 x818001 x818002 x818003 x818004 x818005 x818006 x818007 x818008 x818009
def tenorref8_Dates.l1 : Nat → Bool → List Int → List Int → Int → Int → Int → Int → Int → Int → Int → Int → Int → Int → List (S63) → Option (List Int × Int)
  | 0, _, _, _, _, _, _, _, _, _, _, _, _, _, _ => none
  | k + 1, x5, x9, x14, x15, x818000, x818001, x818002, x818003, x818004, x818005, x818006, x818007, x818008, x818009 => if x15 < (x9.length : Int) then (if x5 = true then (if 0 ≤ (wrap64 ((wrap64 ((x9.length : Int) - 1)) - x15)) then (if (wrap64 ((wrap64 ((x9.length : Int) - 1)) - x15)) < (x9.length : Int) then (if x14.length < 17592186044416 then (tenorref8_Dates.l1 k x5 x9 (x14 ++ [rd x9 (wrap64 ((wrap64 ((x9.length : Int) - 1)) - x15))]) (wrap64 (x15 + 1)) x818000 x818001 x818002 x818003 x818004 x818005 x818006 x818007 x818008 x818009) else (none)) else (none)) else (none)) else (if 0 ≤ x15 then (if x14.length < 17592186044416 then (tenorref8_Dates.l1 k x5 x9 (x14 ++ [rd x9 x15]) (wrap64 (x15 + 1)) x818000 x818001 x818002 x818003 x818004 x818005 x818006 x818007 x818008 x818009) else (none)) else (none))) else (if x14.length < 17592186044416 then (some ((x14 ++ [x818001]), 0)) else (none))
def tenorref8_Dates.l0 : Nat → Bool → Int → Int → Int → List Int → Int → Int → Int → Int → Int → Int → Int → Int → Int → Int → List (S63) → Option (List Int × Int)
  | 0, _, _, _, _, _, _, _, _, _, _, _, _, _, _, _, _ => none
  | k + 1, x5, x6, x7, x8, x9, x11, x818000, x818001, x818002, x818003, x818004, x818005, x818006, x818007, x818008, x818009 => (tenorref8_point.f k x818000 x818001 x818002 x818003 x818004 x818005 x818006 x818007 x818008 x818009 x6 (wrap64 (x11 * x8))).bind fun bt819 => (if bt819.2 = true then (if x5 = true then (if bt819.1 ≤ x7 then (tenorref8_Dates.j2 k x5 x6 x7 x8 x9 x11 bt819.1 bt819.2 true x818000 x818001 x818002 x818003 x818004 x818005 x818006 x818007 x818008 x818009) else (tenorref8_Dates.j2 k x5 x6 x7 x8 x9 x11 bt819.1 bt819.2 false x818000 x818001 x818002 x818003 x818004 x818005 x818006 x818007 x818008 x818009)) else (tenorref8_Dates.j2 k x5 x6 x7 x8 x9 x11 bt819.1 bt819.2 (decide (bt819.1 ≥ x7)) x818000 x818001 x818002 x818003 x818004 x818005 x818006 x818007 x818008 x818009)) else (tenorref8_Dates.j2 k x5 x6 x7 x8 x9 x11 bt819.1 bt819.2 true x818000 x818001 x818002 x818003 x818004 x818005 x818006 x818007 x818008 x818009))
def tenorref8_Dates.j2 : Nat → Bool → Int → Int → Int → List Int → Int → Int → Bool → Bool → Int → Int → Int → Int → Int → Int → Int → Int → Int → List (S63) → Option (List Int × Int)
  | 0, _, _, _, _, _, _, _, _, _, _, _, _, _, _, _, _, _, _, _ => none
  | k + 1, x5, x6, x7, x8, x9, x11, x12, x13, x62, x818000, x818001, x818002, x818003, x818004, x818005, x818006, x818007, x818008, x818009 => if x62 = true then (if x13 = true then (tenorref8_Dates.j3 k x5 x9 (x12 == x7) x818000 x818001 x818002 x818003 x818004 x818005 x818006 x818007 x818008 x818009) else (tenorref8_Dates.j3 k x5 x9 false x818000 x818001 x818002 x818003 x818004 x818005 x818006 x818007 x818008 x818009)) else (if x9.length < 17592186044416 then ((some (x9 ++ [x12] : List Int)).bind fun y821 => (if (wrap64 ((y821.length : Int) + 1)) > 1200 then (some (([] : List Int), 81)) else (tenorref8_Dates.l0 k x5 x6 x7 x8 y821 (wrap64 (x11 + 1)) x818000 x818001 x818002 x818003 x818004 x818005 x818006 x818007 x818008 x818009))) else (none))
end
def tenorref8_Dates.f (k : Nat) (a0_0 a0_1 a0_2 a0_3 a0_4 a0_5 a0_6 a0_7 a0_8 : Int) (l0_9 : List (S63)) : Option (List Int × Int) := (tenorref8_Check.f k a0_0 a0_1 a0_2 a0_3 a0_4 a0_5 a0_6 a0_7 a0_8 l0_9).bind fun t818 => (if t818 = 0 then (if a0_4 ≤ 2 then (tenorref8_Dates.j0 k (decide (a0_4 ≤ 2)) a0_1 a0_0 (-1) a0_0 a0_1 a0_2 a0_3 a0_4 a0_5 a0_6 a0_7 a0_8 l0_9) else (tenorref8_Dates.j0 k (decide (a0_4 ≤ 2)) a0_0 a0_1 1 a0_0 a0_1 a0_2 a0_3 a0_4 a0_5 a0_6 a0_7 a0_8 l0_9)) else (some (([] : List Int), t818)))
set_option maxHeartbeats 8000000 in
set_option maxRecDepth 100000 in
theorem tenorref8_Dates.calls (k : Nat) (a0_0 a0_1 a0_2 a0_3 a0_4 a0_5 a0_6 a0_7 a0_8 : Int) (A0_9 : Option Addr) (c0_9 : Nat) (l0_9 : List (S63)) (r1 : List Int) (r2 : Int) (w : World) (hr0_9 : Kd.C k63 w A0_9 l0_9.length l0_9) (hc0_9 : l0_9.length ≤ c0_9) (h : tenorref8_Dates.f k a0_0 a0_1 a0_2 a0_3 a0_4 a0_5 a0_6 a0_7 a0_8 l0_9 = some (r1, r2)) :
  Calls Try.prog 51 #[.agg #[.int .i64 a0_0, .int .i64 a0_1, .int .i64 a0_2, .int .i64 a0_3, .int .i64 a0_4, .int .i64 a0_5, .int .i64 a0_6, .int .i64 a0_7, .int .i64 a0_8, .slice A0_9 l0_9.length c0_9]] w fun e w' => ∃ v0_ : Value, e = .returned (.tuple #[v0_, .int .i64 r2]) ∧ Kd.R (Kd.int .i64) 3 w' w.heap.size (fun _ => True) v0_ r1 ∧ Below w.heap.size w w' := by
 have hu66 := Try.underlying66;have HR0_9 := Aside0.mk hr0_9;have HC0_9 := Aside0.mk hc0_9;clear hr0_9 hc0_9
 have HB := Aside0.mk (Below.refl w.heap.size w)
 have H : ((tenorref8_Check.f k a0_0 a0_1 a0_2 a0_3 a0_4 a0_5 a0_6 a0_7 a0_8 l0_9).bind fun t818 => (if t818 = 0 then (if a0_4 ≤ 2 then (tenorref8_Dates.j0 k (decide (a0_4 ≤ 2)) a0_1 a0_0 (-1) a0_0 a0_1 a0_2 a0_3 a0_4 a0_5 a0_6 a0_7 a0_8 l0_9) else (tenorref8_Dates.j0 k (decide (a0_4 ≤ 2)) a0_0 a0_1 1 a0_0 a0_1 a0_2 a0_3 a0_4 a0_5 a0_6 a0_7 a0_8 l0_9)) else (some (([] : List Int), t818)))) = some (r1, r2) := h
 clear h;replace H := Option.bind_eq_some_iff.mp H
 obtain ⟨t818, A20, H⟩ := H
 replace H : (if t818 = 0 then (if a0_4 ≤ 2 then (tenorref8_Dates.j0 k (decide (a0_4 ≤ 2)) a0_1 a0_0 (-1) a0_0 a0_1 a0_2 a0_3 a0_4 a0_5 a0_6 a0_7 a0_8 l0_9) else (tenorref8_Dates.j0 k (decide (a0_4 ≤ 2)) a0_0 a0_1 1 a0_0 a0_1 a0_2 a0_3 a0_4 a0_5 a0_6 a0_7 a0_8 l0_9)) else (some (([] : List Int), t818))) = some (r1, r2) := H
 have A2 := Aside0.mk A20;clear A20
 by_cases c3 : t818 = 0
 ·
  rw [if_pos c3] at H
  have c3b0 : (t818 == 0) = true := beq_iff_eq.mpr c3
  have c3b1 : (t818 != 0) = false := bne_eq_false_iff_eq.mpr c3
  clear c3;have HC4 := Aside0.mk H;clear H
  go_enter Try.func51, Try.ntmps51
  go_upto_if 28 with (first | ((with_reducible refine gate_dst (N := 1) rfl ?_); (try (refine gate_guard (by rfl) ?_; dsimp only)); refine box_event ?hg (N := 1) ?hd (cs := #[.int .i64 a0_0, .int .i64 a0_1, .int .i64 a0_2, .int .i64 a0_3, .int .i64 a0_4, .int .i64 a0_5, .int .i64 a0_6, .int .i64 a0_7, .int .i64 a0_8, .slice A0_9 l0_9.length c0_9]) (t := 66) ?hr ?_; (case hd => rfl); (case hg => rfl); (case hr => first | (go_simp; done) | (go_simp; rfl)); intro gb817 hg w5 hbox hb; have BK817 := Aside0.mk (hbox); have GW817 := bG hg; have GE817 := bG hg; replace HB := bS hb; clear hb hbox hg; obtain ⟨_,_,_,_,_,_,_,_,_,_,_,_,_,_,_,_,_,_,_,_⟩ := blk10 BK817) | ((with_reducible refine gG 58 ?_); refine goA (some 17) Try.func58 #[.agg #[.int .i64 a0_0, .int .i64 a0_1, .int .i64 a0_2, .int .i64 a0_3, .int .i64 a0_4, .int .i64 a0_5, .int .i64 a0_6, .int .i64 a0_7, .int .i64 a0_8, .slice A0_9 l0_9.length c0_9]] ?_; (with_reducible refine (tenorref8_Check.calls k a0_0 a0_1 a0_2 a0_3 a0_4 a0_5 a0_6 a0_7 a0_8 _ _ l0_9 t818 _ ?side1 ?side2 A2.out).mono ?_); (case side1 => exact sC HR0_9); (case side2 => exact HC0_9.out); rintro e w7 ⟨rfl, hb⟩; refine ⟨_, rfl, ?_⟩; replace BK817 := bK BK817 hb; replace HB := bS hb; (try clear hb); (try clear hb2); (try clear hk); (try clear hi); obtain ⟨_,_,_,_,_,_,_,_,_,_,_,_,_,_,_,_,_,_,_,_⟩ := blk10 BK817))
  (try simp only [Act.put, List.setIfInBounds_toArray, List.set_cons_zero, List.set_cons_succ])
  generalize hx5 : decide (a0_4 ≤ 2) = x5 at HC4 ⊢
  go_cut [6, 7, 8] (fun v6 v7 v8 wc => ∃ (kq : Nat) (x6_3 : Int) (x7_3 : Int) (x8_3 : Int), v6 = .int .i64 x6_3 ∧ v7 = .int .i64 x7_3 ∧ v8 = .int .i64 x8_3 ∧ Aside0 (tenorref8_Dates.j0 kq x5 x6_3 x7_3 x8_3 a0_0 a0_1 a0_2 a0_3 a0_4 a0_5 a0_6 a0_7 a0_8 l0_9 = some (r1, r2)) ∧ Aside0 (kq ≤ k) ∧ Aside0 (wc.heap[gb817]? = some (.cells #[.int .i64 a0_0, .int .i64 a0_1, .int .i64 a0_2, .int .i64 a0_3, .int .i64 a0_4, .int .i64 a0_5, .int .i64 a0_6, .int .i64 a0_7, .int .i64 a0_8, (.slice A0_9 l0_9.length c0_9)] 66 (0, 0))) ∧ Aside0 (Below w.heap.size w wc))
  case first =>
   have H := HC4.out;clear HC4
   by_cases c9 : a0_4 ≤ 2
   ·
    rw [if_pos c9] at H
    have c9b0 : decide (a0_4 ≤ 2) = true := decide_eq_true c9
    clear c9
    rw [c9b0] at hx5; subst hx5
    have H' := Aside0.mk H;clear H
    obtain ⟨_,_,_,_,_,_,_,_,_,_,_,_,_,_,_,_,_,_,_,_⟩ := blk10 BK817
    go_wp2
    go_meet
    case rel => exact ⟨_, (a0_1), (a0_0), ((-1)), eS, eS, eS, H', ⟨eN⟩, ⟨(bk BK817)⟩, ⟨bB⟩⟩
   ·
    rw [if_neg c9] at H
    have c9b0 : decide (a0_4 ≤ 2) = false := decide_eq_false c9
    clear c9
    rw [c9b0] at hx5; subst hx5
    have H' := Aside0.mk H;clear H
    go_wp2
    go_meet
    case rel => exact ⟨_, (a0_0), (a0_1), (1), eS, eS, eS, H', ⟨eN⟩, ⟨(bk BK817)⟩, ⟨bB⟩⟩
  case rest =>
   clear HC4
   obtain ⟨kq, x6_3, x7_3, x8_3, rfl, rfl, rfl, HA, HJ3, BK817, HB⟩ := hcut
   cases kq with
   | zero => exact absurd HA.out (by simp [tenorref8_Dates.j0])
   | succ kj3 =>
    have H := HA.out;clear HA
    simp only [tenorref8_Dates.j0] at H
    have HC11 := Aside0.mk H;clear H
    go_upto_block 0 with (fail)
    go_cut [9, 10] (fun v9 v10 wc => ∃ (kq : Nat) (x9_10 : List Int) (x10_10 : Bool), v10 = .bool x10_10 ∧ Aside0 (tenorref8_Dates.j3 kq x5 x9_10 x10_10 a0_0 a0_1 a0_2 a0_3 a0_4 a0_5 a0_6 a0_7 a0_8 l0_9 = some (r1, r2)) ∧ Aside0 (kq ≤ kj3) ∧ Aside0 (Kd.R (Kd.int .i64) 3 wc w.heap.size (fun _ => True) v9 x9_10) ∧ Aside0 (wc.heap[gb817]? = some (.cells #[.int .i64 a0_0, .int .i64 a0_1, .int .i64 a0_2, .int .i64 a0_3, .int .i64 a0_4, .int .i64 a0_5, .int .i64 a0_6, .int .i64 a0_7, .int .i64 a0_8, (.slice A0_9 l0_9.length c0_9)] 66 (0, 0))) ∧ Aside0 (Below w.heap.size w wc))
    case first =>
     have H := HC11.out;clear HC11;have H' := Aside0.mk H;clear H
     go_wp2
     go_loopg [9, 11] kj3 (fun kq v9 v11 w' => ∃ (x9_2 : List Int) (x11_2 : Int), v11 = .int .i64 x11_2 ∧ Aside0 (tenorref8_Dates.l0 kq x5 x6_3 x7_3 x8_3 x9_2 x11_2 a0_0 a0_1 a0_2 a0_3 a0_4 a0_5 a0_6 a0_7 a0_8 l0_9 = some (r1, r2)) ∧ Aside0 (kq ≤ kj3) ∧ Aside0 (Kd.R (Kd.int .i64) 3 w' w.heap.size (fun _ => True) v9 x9_2) ∧ Aside0 (w'.heap[gb817]? = some (.cells #[.int .i64 a0_0, .int .i64 a0_1, .int .i64 a0_2, .int .i64 a0_3, .int .i64 a0_4, .int .i64 a0_5, .int .i64 a0_6, .int .i64 a0_7, .int .i64 a0_8, (.slice A0_9 l0_9.length c0_9)] 66 (0, 0))) ∧ Aside0 (Below w.heap.size w w'))
     case atStart => exact ⟨(([] : List Int)), (1), eS, H', ⟨Nat.le_refl _⟩, ⟨by first | exact Kd.R_nil _ _ _ _ _ | exact Kd.N_nil _ _ _ _ _ | exact Kd.V_nil _ _ _ _ _ | exact Kd.Q_nil _ _ _ _ _ | exact Kd.S_nil _ _ _ _ _⟩, ⟨(bk BK817)⟩, ⟨bB⟩⟩
     case round =>
      clear H'
      obtain ⟨x9_2, x11_2, rfl, HA, HK2, HO_9, BK817, HB⟩ := hrel
      cases gk with
      | zero => exact absurd HA.out (by simp [tenorref8_Dates.l0])
      | succ k2 =>
       have H := HA.out;clear HA
       simp only [tenorref8_Dates.l0] at H
       replace H := Option.bind_eq_some_iff.mp H
       obtain ⟨⟨t819, t820⟩, A120, H⟩ := H
       replace H : (if t820 = true then (if x5 = true then (if t819 ≤ x7_3 then (tenorref8_Dates.j2 k2 x5 x6_3 x7_3 x8_3 x9_2 x11_2 t819 t820 true a0_0 a0_1 a0_2 a0_3 a0_4 a0_5 a0_6 a0_7 a0_8 l0_9) else (tenorref8_Dates.j2 k2 x5 x6_3 x7_3 x8_3 x9_2 x11_2 t819 t820 false a0_0 a0_1 a0_2 a0_3 a0_4 a0_5 a0_6 a0_7 a0_8 l0_9)) else (tenorref8_Dates.j2 k2 x5 x6_3 x7_3 x8_3 x9_2 x11_2 t819 t820 (decide (t819 ≥ x7_3)) a0_0 a0_1 a0_2 a0_3 a0_4 a0_5 a0_6 a0_7 a0_8 l0_9)) else (tenorref8_Dates.j2 k2 x5 x6_3 x7_3 x8_3 x9_2 x11_2 t819 t820 true a0_0 a0_1 a0_2 a0_3 a0_4 a0_5 a0_6 a0_7 a0_8 l0_9)) = some (r1, r2) := H
       have A12 := Aside0.mk A120;clear A120;have HC13 := Aside0.mk H;clear H
       obtain ⟨_,_,_,_,_,_,_,_,_,_,_,_,_,_,_,_,_,_,_,_⟩ := blk10 BK817
       go_upto_region 17 with (first | ((with_reducible refine gG 89 ?_); refine goA (some 41) Try.func89 #[.agg #[.int .i64 a0_0, .int .i64 a0_1, .int .i64 a0_2, .int .i64 a0_3, .int .i64 a0_4, .int .i64 a0_5, .int .i64 a0_6, .int .i64 a0_7, .int .i64 a0_8, .slice A0_9 l0_9.length c0_9], .int .i64 x6_3, .int .i64 (wrap64 (x11_2 * x8_3))] ?_; (with_reducible refine (tenorref8_point.calls k2 a0_0 a0_1 a0_2 a0_3 a0_4 a0_5 a0_6 a0_7 a0_8 _ _ l0_9 x6_3 (wrap64 (x11_2 * x8_3)) t819 t820 _ ?side1 ?side2 A12.out).mono ?_); (case side1 => exact sC HR0_9); (case side2 => exact HC0_9.out); rintro e w15 ⟨rfl, hb⟩; refine ⟨_, rfl, ?_⟩; replace HO_9 := Aside0.mk (Kd.R_below (bR HO_9) hb); replace BK817 := bK BK817 hb; replace HB := bS hb; (try clear hb); (try clear hb2); (try clear hk); (try clear hi)))
       (try simp only [Act.put, List.setIfInBounds_toArray, List.set_cons_zero, List.set_cons_succ])
       go_cut [62] (fun v62 wc => ∃ (kq : Nat) (x62_12 : Bool), v62 = .bool x62_12 ∧ Aside0 (tenorref8_Dates.j2 kq x5 x6_3 x7_3 x8_3 x9_2 x11_2 t819 t820 x62_12 a0_0 a0_1 a0_2 a0_3 a0_4 a0_5 a0_6 a0_7 a0_8 l0_9 = some (r1, r2)) ∧ Aside0 (kq ≤ k2) ∧ Aside0 (Kd.R (Kd.int .i64) 3 wc w.heap.size (fun _ => True) u9 x9_2) ∧ Aside0 (wc.heap[gb817]? = some (.cells #[.int .i64 a0_0, .int .i64 a0_1, .int .i64 a0_2, .int .i64 a0_3, .int .i64 a0_4, .int .i64 a0_5, .int .i64 a0_6, .int .i64 a0_7, .int .i64 a0_8, (.slice A0_9 l0_9.length c0_9)] 66 (0, 0))) ∧ Aside0 (Below w.heap.size w wc))
       case first =>
        have H := HC13.out;clear HC13
        by_cases c16 : t820 = true
        ·
         subst c16
         have H1 : (if x5 = true then (if t819 ≤ x7_3 then (tenorref8_Dates.j2 k2 x5 x6_3 x7_3 x8_3 x9_2 x11_2 t819 true true a0_0 a0_1 a0_2 a0_3 a0_4 a0_5 a0_6 a0_7 a0_8 l0_9) else (tenorref8_Dates.j2 k2 x5 x6_3 x7_3 x8_3 x9_2 x11_2 t819 true false a0_0 a0_1 a0_2 a0_3 a0_4 a0_5 a0_6 a0_7 a0_8 l0_9)) else (tenorref8_Dates.j2 k2 x5 x6_3 x7_3 x8_3 x9_2 x11_2 t819 true (decide (t819 ≥ x7_3)) a0_0 a0_1 a0_2 a0_3 a0_4 a0_5 a0_6 a0_7 a0_8 l0_9)) = some (r1, r2) := by rw [if_pos rfl] at H; exact H
         clear H;have H := H1;clear H1
         by_cases c17 : x5 = true
         ·
          rw [if_pos c17] at H
          have c17b0 : x5 = true := c17
          clear c17;subst c17b0
          by_cases c18 : t819 ≤ x7_3
          ·
           rw [if_pos c18] at H
           have c18b0 : decide (t819 ≤ x7_3) = true := decide_eq_true c18
           clear c18;have H' := Aside0.mk H;clear H
           go_wp2
           go_meet
           case rel => exact ⟨_, (true), eS, H', ⟨by have := HJ3.out; have := HK2.out; first | omega | exact Nat.le_refl _⟩, ⟨(bR HO_9)⟩, ⟨(bk BK817)⟩, ⟨bB⟩⟩
          ·
           rw [if_neg c18] at H
           have c18b0 : decide (t819 ≤ x7_3) = false := decide_eq_false c18
           clear c18;have H' := Aside0.mk H;clear H
           go_wp2
           go_meet
           case rel => exact ⟨_, (false), eS, H', ⟨by have := HJ3.out; have := HK2.out; first | omega | exact Nat.le_refl _⟩, ⟨(bR HO_9)⟩, ⟨(bk BK817)⟩, ⟨bB⟩⟩
         ·
          rw [if_neg c17] at H
          have c17b0 : x5 = false := by simpa using c17
          clear c17;subst c17b0;have H' := Aside0.mk H;clear H
          go_wp2
          go_meet
          case rel => exact ⟨_, (decide (t819 ≥ x7_3)), eS, H', ⟨by have := HJ3.out; have := HK2.out; first | omega | exact Nat.le_refl _⟩, ⟨(bR HO_9)⟩, ⟨(bk BK817)⟩, ⟨bB⟩⟩
        ·
         replace c16 := Bool.eq_false_iff.mpr c16;subst c16
         have H1 : (tenorref8_Dates.j2 k2 x5 x6_3 x7_3 x8_3 x9_2 x11_2 t819 false true a0_0 a0_1 a0_2 a0_3 a0_4 a0_5 a0_6 a0_7 a0_8 l0_9) = some (r1, r2) := by rw [if_neg (show ¬ (false = true) by decide)] at H; exact H
         clear H;have H := H1;clear H1;have H' := Aside0.mk H;clear H
         go_wp2
         go_meet
         case rel => exact ⟨_, (true), eS, H', ⟨by have := HJ3.out; have := HK2.out; first | omega | exact Nat.le_refl _⟩, ⟨(bR HO_9)⟩, ⟨(bk BK817)⟩, ⟨bB⟩⟩
       case rest =>
        clear HC13
        obtain ⟨kq, x62_12, rfl, HA, HJ12, HO_9, BK817, HB⟩ := hcut
        cases kq with
        | zero => exact absurd HA.out (by simp [tenorref8_Dates.j2])
        | succ kj12 =>
         have H := HA.out;clear HA
         simp only [tenorref8_Dates.j2] at H
         by_cases c19 : x62_12 = true
         ·
          subst c19
          have H1 : (if t820 = true then (tenorref8_Dates.j3 kj12 x5 x9_2 (t819 == x7_3) a0_0 a0_1 a0_2 a0_3 a0_4 a0_5 a0_6 a0_7 a0_8 l0_9) else (tenorref8_Dates.j3 kj12 x5 x9_2 false a0_0 a0_1 a0_2 a0_3 a0_4 a0_5 a0_6 a0_7 a0_8 l0_9)) = some (r1, r2) := by rw [if_pos rfl] at H; exact H
          clear H;have H := H1;clear H1
          by_cases c20 : t820 = true
          ·
           subst c20
           have H1 : (tenorref8_Dates.j3 kj12 x5 x9_2 (t819 == x7_3) a0_0 a0_1 a0_2 a0_3 a0_4 a0_5 a0_6 a0_7 a0_8 l0_9) = some (r1, r2) := by rw [if_pos rfl] at H; exact H
           clear H;have H := H1;clear H1;have H' := Aside0.mk H;clear H
           go_wp2
           go_meet
           case rel => exact ⟨_, (x9_2), ((t819 == x7_3)), eS, H', ⟨by have := HJ3.out; have := HK2.out; have := HJ12.out; first | omega | exact Nat.le_refl _⟩, ⟨(bR HO_9)⟩, ⟨(bk BK817)⟩, ⟨bB⟩⟩
          ·
           replace c20 := Bool.eq_false_iff.mpr c20;subst c20
           have H1 : (tenorref8_Dates.j3 kj12 x5 x9_2 false a0_0 a0_1 a0_2 a0_3 a0_4 a0_5 a0_6 a0_7 a0_8 l0_9) = some (r1, r2) := by rw [if_neg (show ¬ (false = true) by decide)] at H; exact H
           clear H;have H := H1;clear H1;have H' := Aside0.mk H;clear H
           go_wp2
           go_meet
           case rel => exact ⟨_, (x9_2), (false), eS, H', ⟨by have := HJ3.out; have := HK2.out; have := HJ12.out; first | omega | exact Nat.le_refl _⟩, ⟨(bR HO_9)⟩, ⟨(bk BK817)⟩, ⟨bB⟩⟩
         ·
          replace c19 := Bool.eq_false_iff.mpr c19;subst c19
          have H1 : (if x9_2.length < 17592186044416 then ((some (x9_2 ++ [t819] : List Int)).bind fun y821 => (if (wrap64 ((y821.length : Int) + 1)) > 1200 then (some (([] : List Int), 81)) else (tenorref8_Dates.l0 kj12 x5 x6_3 x7_3 x8_3 y821 (wrap64 (x11_2 + 1)) a0_0 a0_1 a0_2 a0_3 a0_4 a0_5 a0_6 a0_7 a0_8 l0_9))) else (none)) = some (r1, r2) := by rw [if_neg (show ¬ (false = true) by decide)] at H; exact H
          clear H;have H := H1;clear H1
          by_cases c21 : x9_2.length < 17592186044416
          ·
           rw [if_pos c21] at H
           have LMc21 := Aside0.mk c21;clear c21
           obtain ⟨y821, hy821⟩ : ∃ y_ : List Int, y_ = (x9_2 ++ [t819]) := ⟨_, rfl⟩
           replace H : (if (wrap64 ((y821.length : Int) + 1)) > 1200 then (some (([] : List Int), 81)) else (tenorref8_Dates.l0 kj12 x5 x6_3 x7_3 x8_3 y821 (wrap64 (x11_2 + 1)) a0_0 a0_1 a0_2 a0_3 a0_4 a0_5 a0_6 a0_7 a0_8 l0_9)) = some (r1, r2) := by first | (rw [hy821]; with_reducible exact H) | (have H2_ := (Option.bind_some _ _).symm.trans H; rw [hy821]; with_reducible exact H2_) | (have H2_ := (Option.bind_some _ _).symm.trans H; with_reducible exact H2_) | with_reducible exact H | (rw [hy821]; exact H) | exact H
           have Ny821 := Aside0.mk hy821;clear hy821
           by_cases c22 : (wrap64 ((y821.length : Int) + 1)) > 1200
           ·
            rw [if_pos c22] at H
            have c22b0 : decide (1200 < (wrap64 ((y821.length : Int) + 1))) = true := decide_eq_true c22
            clear c22
            simp only [Option.some.injEq, Prod.mk.injEq] at H
            obtain ⟨rfl, rfl⟩ := H
            go_wp2_with (first | ((with_reducible refine gate_builtin (b := .append) (xs := #[.tmp 69, .tmp 71]) rfl ?_); (try (refine gate_guard (by rfl) ?_; dsimp only)); at_builtin; refine Kd.R_append (Kd.int .i64) (w0 := w) w.heap.size rfl (.tmp 69) (.tmp 71) 67 3 (.int .i64 0) 8 rfl Try.underlying67 info3 rfl (by decide) (by omega) u9 x9_2 t819 [.int .i64 t819] (fun _ => True) (fun _ => False) rfl rfl ?aP (fun _ hk => hk.elim) ?aF ?aO ?aB ?aS ?aL ?_; (case aP => exact rfl); (case aB => exact bB); (case aF => exact (fun _ _ => trivial)); (case aO => exact (bR HO_9)); (case aS => exact (below_size bB)); (case aL => have := LMc21.out; omega); intro v822 w23 ho hb hg hat; rw [← Ny821.out] at ho; replace BK817 := Aside0.mk (blk_grown (g := gb817) (o := .cells #[.int .i64 a0_0, .int .i64 a0_1, .int .i64 a0_2, .int .i64 a0_3, .int .i64 a0_4, .int .i64 a0_5, .int .i64 a0_6, .int .i64 a0_7, .int .i64 a0_8, .slice A0_9 l0_9.length c0_9] 66 (0, 0)) (bk BK817) hg (Kd.R_ne HO_9.out BK817.out (by decide))); replace HB := Aside0.mk (hb); have HO823 := Aside0.mk (ho); clear HO_9; clear ho hb hg hat; obtain ⟨Ao24, co24, eo24⟩ := Kd.R_slice HO823.out; subst eo24))
            go_ret2
            exact ⟨_, eW, by first | exact Kd.R_nil _ _ _ _ _ | exact Kd.N_nil _ _ _ _ _ | exact Kd.V_nil _ _ _ _ _ | exact Kd.Q_nil _ _ _ _ _ | exact Kd.S_nil _ _ _ _ _, bB⟩
           ·
            rw [if_neg c22] at H
            have c22b0 : decide (1200 < (wrap64 ((y821.length : Int) + 1))) = false := decide_eq_false c22
            clear c22;have H' := Aside0.mk H;clear H
            go_wp2_with (first | ((with_reducible refine gate_builtin (b := .append) (xs := #[.tmp 69, .tmp 71]) rfl ?_); (try (refine gate_guard (by rfl) ?_; dsimp only)); at_builtin; refine Kd.R_append (Kd.int .i64) (w0 := w) w.heap.size rfl (.tmp 69) (.tmp 71) 67 3 (.int .i64 0) 8 rfl Try.underlying67 info3 rfl (by decide) (by omega) u9 x9_2 t819 [.int .i64 t819] (fun _ => True) (fun _ => False) rfl rfl ?aP (fun _ hk => hk.elim) ?aF ?aO ?aB ?aS ?aL ?_; (case aP => exact rfl); (case aB => exact bB); (case aF => exact (fun _ _ => trivial)); (case aO => exact (bR HO_9)); (case aS => exact (below_size bB)); (case aL => have := LMc21.out; omega); intro v822 w25 ho hb hg hat; rw [← Ny821.out] at ho; replace BK817 := Aside0.mk (blk_grown (g := gb817) (o := .cells #[.int .i64 a0_0, .int .i64 a0_1, .int .i64 a0_2, .int .i64 a0_3, .int .i64 a0_4, .int .i64 a0_5, .int .i64 a0_6, .int .i64 a0_7, .int .i64 a0_8, .slice A0_9 l0_9.length c0_9] 66 (0, 0)) (bk BK817) hg (Kd.R_ne HO_9.out BK817.out (by decide))); replace HB := Aside0.mk (hb); have HO823 := Aside0.mk (ho); clear HO_9; clear ho hb hg hat; obtain ⟨Ao26, co26, eo26⟩ := Kd.R_slice HO823.out; subst eo26))
            go_roundg kj12
            case measure => have := HJ3.out; have := HK2.out; have := HJ12.out; omega
            case rel => exact ⟨(y821), (wrap64 (x11_2 + 1)), eS, H', ⟨by have := HJ3.out; have := HK2.out; have := HJ12.out; omega⟩, ⟨(bR HO823)⟩, ⟨(bk BK817)⟩, ⟨bB⟩⟩
          ·
           rw [if_neg c21] at H
           exact absurd H (by simp)
    case rest =>
     clear HC11
     obtain ⟨kq, x9_10, x10_10, rfl, HA, HJ10, HO_9, BK817, HB⟩ := hcut
     cases kq with
     | zero => exact absurd HA.out (by simp [tenorref8_Dates.j3])
     | succ kj10 =>
      have H := HA.out;clear HA
      simp only [tenorref8_Dates.j3] at H
      have HC27 := Aside0.mk H;clear H
      go_upto_region 22 with (fail)
      go_cut [93] (fun v93 wc => ∃ (kq : Nat) (x93_26 : Bool), v93 = .bool x93_26 ∧ Aside0 (tenorref8_Dates.j4 kq x5 x9_10 x93_26 a0_0 a0_1 a0_2 a0_3 a0_4 a0_5 a0_6 a0_7 a0_8 l0_9 = some (r1, r2)) ∧ Aside0 (kq ≤ kj10) ∧ Aside0 (Kd.R (Kd.int .i64) 3 wc w.heap.size (fun _ => True) u9 x9_10) ∧ Aside0 (wc.heap[gb817]? = some (.cells #[.int .i64 a0_0, .int .i64 a0_1, .int .i64 a0_2, .int .i64 a0_3, .int .i64 a0_4, .int .i64 a0_5, .int .i64 a0_6, .int .i64 a0_7, .int .i64 a0_8, (.slice A0_9 l0_9.length c0_9)] 66 (0, 0))) ∧ Aside0 (Below w.heap.size w wc))
      case first =>
       have H := HC27.out;clear HC27
       by_cases c28 : a0_4 = 2
       ·
        rw [if_pos c28] at H
        have c28b0 : (a0_4 == 2) = true := beq_iff_eq.mpr c28
        have c28b1 : (a0_4 != 2) = false := bne_eq_false_iff_eq.mpr c28
        clear c28
        (first | rw [c28b0] | (simp only [i64_w, i32_w]; rw [c28b0]) | skip)
        by_cases c29 : x10_10 = true
        ·
         subst c29
         have H1 : (tenorref8_Dates.j4 kj10 x5 x9_10 false a0_0 a0_1 a0_2 a0_3 a0_4 a0_5 a0_6 a0_7 a0_8 l0_9) = some (r1, r2) := by rw [if_pos rfl] at H; exact H
         clear H;have H := H1;clear H1;have H' := Aside0.mk H;clear H
         obtain ⟨_,_,_,_,_,_,_,_,_,_,_,_,_,_,_,_,_,_,_,_⟩ := blk10 BK817
         go_wp2
         go_meet
         case rel => exact ⟨_, (false), eS, H', ⟨by have := HJ3.out; have := HJ10.out; first | omega | exact Nat.le_refl _⟩, ⟨(bR HO_9)⟩, ⟨(bk BK817)⟩, ⟨bB⟩⟩
        ·
         replace c29 := Bool.eq_false_iff.mpr c29;subst c29
         have H1 : (tenorref8_Dates.j4 kj10 x5 x9_10 (decide ((x9_10.length : Int) > 0)) a0_0 a0_1 a0_2 a0_3 a0_4 a0_5 a0_6 a0_7 a0_8 l0_9) = some (r1, r2) := by rw [if_neg (show ¬ (false = true) by decide)] at H; exact H
         clear H;have H := H1;clear H1;have H' := Aside0.mk H;clear H
         obtain ⟨_,_,_,_,_,_,_,_,_,_,_,_,_,_,_,_,_,_,_,_⟩ := blk10 BK817
         obtain ⟨Ao32, co32, eo32⟩ := Kd.R_slice HO_9.out
         subst eo32
         go_wp2
         go_meet
         case rel => exact ⟨_, (decide ((x9_10.length : Int) > 0)), eS, H', ⟨by have := HJ3.out; have := HJ10.out; first | omega | exact Nat.le_refl _⟩, ⟨(bR HO_9)⟩, ⟨(bk BK817)⟩, ⟨bB⟩⟩
       ·
        rw [if_neg c28] at H
        have c28b0 : (a0_4 == 2) = false := beq_eq_false_iff_ne.mpr c28
        have c28b1 : (a0_4 != 2) = true := bne_iff_ne.mpr c28
        (first | rw [c28b0] | (simp only [i64_w, i32_w]; rw [c28b0]) | skip)
        by_cases c33 : a0_4 = 4
        ·
         rw [if_pos c33] at H
         have c33b0 : (a0_4 == 4) = true := beq_iff_eq.mpr c33
         have c33b1 : (a0_4 != 4) = false := bne_eq_false_iff_eq.mpr c33
         clear c33
         by_cases c34 : x10_10 = true
         ·
          subst c34
          have H1 : (tenorref8_Dates.j4 kj10 x5 x9_10 false a0_0 a0_1 a0_2 a0_3 a0_4 a0_5 a0_6 a0_7 a0_8 l0_9) = some (r1, r2) := by rw [if_pos rfl] at H; exact H
          clear H;have H := H1;clear H1;have H' := Aside0.mk H;clear H
          obtain ⟨_,_,_,_,_,_,_,_,_,_,_,_,_,_,_,_,_,_,_,_⟩ := blk10 BK817
          go_wp2
          go_meet
          case rel => exact ⟨_, (false), eS, H', ⟨by have := HJ3.out; have := HJ10.out; first | omega | exact Nat.le_refl _⟩, ⟨(bR HO_9)⟩, ⟨(bk BK817)⟩, ⟨bB⟩⟩
         ·
          replace c34 := Bool.eq_false_iff.mpr c34;subst c34
          have H1 : (tenorref8_Dates.j4 kj10 x5 x9_10 (decide ((x9_10.length : Int) > 0)) a0_0 a0_1 a0_2 a0_3 a0_4 a0_5 a0_6 a0_7 a0_8 l0_9) = some (r1, r2) := by rw [if_neg (show ¬ (false = true) by decide)] at H; exact H
          clear H;have H := H1;clear H1;have H' := Aside0.mk H;clear H
          obtain ⟨_,_,_,_,_,_,_,_,_,_,_,_,_,_,_,_,_,_,_,_⟩ := blk10 BK817
          obtain ⟨Ao37, co37, eo37⟩ := Kd.R_slice HO_9.out
          subst eo37
          go_wp2
          go_meet
          case rel => exact ⟨_, (decide ((x9_10.length : Int) > 0)), eS, H', ⟨by have := HJ3.out; have := HJ10.out; first | omega | exact Nat.le_refl _⟩, ⟨(bR HO_9)⟩, ⟨(bk BK817)⟩, ⟨bB⟩⟩
        ·
         rw [if_neg c33] at H
         have c33b0 : (a0_4 == 4) = false := beq_eq_false_iff_ne.mpr c33
         have c33b1 : (a0_4 != 4) = true := bne_iff_ne.mpr c33
         have H' := Aside0.mk H;clear H
         obtain ⟨_,_,_,_,_,_,_,_,_,_,_,_,_,_,_,_,_,_,_,_⟩ := blk10 BK817
         go_wp2
         go_meet
         case rel => exact ⟨_, (false), eS, H', ⟨by have := HJ3.out; have := HJ10.out; first | omega | exact Nat.le_refl _⟩, ⟨(bR HO_9)⟩, ⟨(bk BK817)⟩, ⟨bB⟩⟩
      case rest =>
       clear HC27
       obtain ⟨kq, x93_26, rfl, HA, HJ26, HO_9, BK817, HB⟩ := hcut
       cases kq with
       | zero => exact absurd HA.out (by simp [tenorref8_Dates.j4])
       | succ kj26 =>
        have H := HA.out;clear HA
        simp only [tenorref8_Dates.j4] at H
        have HC39 := Aside0.mk H;clear H
        go_upto_if 93 with (fail)
        go_cut [9] (fun v9 wc => ∃ (kq : Nat) (x9_38 : List Int), Aside0 (tenorref8_Dates.j5 kq x5 x9_38 a0_0 a0_1 a0_2 a0_3 a0_4 a0_5 a0_6 a0_7 a0_8 l0_9 = some (r1, r2)) ∧ Aside0 (kq ≤ kj26) ∧ Aside0 (Kd.R (Kd.int .i64) 3 wc w.heap.size (fun _ => True) v9 x9_38) ∧ Aside0 (wc.heap[gb817]? = some (.cells #[.int .i64 a0_0, .int .i64 a0_1, .int .i64 a0_2, .int .i64 a0_3, .int .i64 a0_4, .int .i64 a0_5, .int .i64 a0_6, .int .i64 a0_7, .int .i64 a0_8, (.slice A0_9 l0_9.length c0_9)] 66 (0, 0))) ∧ Aside0 (Below w.heap.size w wc))
        case first =>
         have H := HC39.out;clear HC39
         by_cases c40 : x93_26 = true
         ·
          subst c40
          have H1 : (if 0 ≤ (wrap64 ((x9_10.length : Int) - 1)) then (if (wrap64 ((x9_10.length : Int) - 1)) ≤ (x9_10.length : Int) then (tenorref8_Dates.j5 kj26 x5 (x9_10.take ((wrap64 ((x9_10.length : Int) - 1)) : Int).toNat) a0_0 a0_1 a0_2 a0_3 a0_4 a0_5 a0_6 a0_7 a0_8 l0_9) else (none)) else (none)) = some (r1, r2) := by rw [if_pos rfl] at H; exact H
          clear H;have H := H1;clear H1
          obtain ⟨ji41, hji41⟩ : ∃ j_ : Int, (wrap64 ((x9_10.length : Int) - 1)) = j_ := ⟨_, rfl⟩
          replace H : (if 0 ≤ (ji41) then (if (ji41) ≤ (x9_10.length : Int) then (tenorref8_Dates.j5 kj26 x5 (x9_10.take ((ji41) : Int).toNat) a0_0 a0_1 a0_2 a0_3 a0_4 a0_5 a0_6 a0_7 a0_8 l0_9) else (none)) else (none)) = some (r1, r2) := by first | (rw [hji41] at H; exact H) | (simp only [hji41] at H ⊢; exact H)
          have hji41w : (IntKind.i64.wrap ((x9_10.length : Int) - 1)) = ji41 := (i64_w _).trans hji41
          by_cases c42 : 0 ≤ (ji41)
          ·
           rw [if_pos c42] at H
           have c42b0 := eq_true c42
           have c42b1 : decide (0 ≤ (ji41)) = true := decide_eq_true c42
           clear c42
           by_cases c43 : (ji41) ≤ (x9_10.length : Int)
           ·
            rw [if_pos c43] at H
            have c43b0 := eq_true c43
            have c43b1 : decide ((ji41) ≤ (x9_10.length : Int)) = true := decide_eq_true c43
            clear c43
            obtain ⟨y824, hy824⟩ : ∃ y_ : List Int, y_ = (x9_10.take ((ji41) : Int).toNat) := ⟨_, rfl⟩
            replace H : (tenorref8_Dates.j5 kj26 x5 y824 a0_0 a0_1 a0_2 a0_3 a0_4 a0_5 a0_6 a0_7 a0_8 l0_9) = some (r1, r2) := by first | (rw [hy824]; with_reducible exact H) | (have H2_ := (Option.bind_some _ _).symm.trans H; rw [hy824]; with_reducible exact H2_) | (have H2_ := (Option.bind_some _ _).symm.trans H; with_reducible exact H2_) | with_reducible exact H | (rw [hy824]; exact H) | exact H
            have Ny824 := Aside0.mk hy824;clear hy824;have H' := Aside0.mk H;clear H
            obtain ⟨Ao44, co44, eo44⟩ := Kd.R_slice HO_9.out
            subst eo44
            have q45 : ((ji41) : Int) ≤ ((x9_10.length : Int) : Int) := of_decide_eq_true tA
            obtain ⟨i045, hi045, _, hsz45, _⟩ := info_parts info3
            have hcut45 := cut_to (P := Try.prog) 67 3 .i64 Try.underlying67 hi045 Ao44 x9_10.length co44 (ji41) (of_decide_eq_true tA) q45 (Kd.R_reads' HO_9.out).2.1
            have hr45 := Kd.R_take (m := ((ji41) : Int).toNat) HO_9.out (by omega)
            have hy45 : y824.length = ((ji41) : Int).toNat := (by rw [Ny824.out, List.length_take]; omega)
            rw [← Ny824.out] at hr45
            rw [← hy45] at hr45 hcut45
            clear hy45 hi045 hsz45 HO_9;have HO826 := Aside0.mk hr45;clear hr45;replace q45 := eq_true q45
            go_wp2
            go_meet
            case rel => exact ⟨_, (y824), H', ⟨by have := HJ3.out; have := HJ10.out; have := HJ26.out; first | omega | exact Nat.le_refl _⟩, ⟨(bR HO826)⟩, ⟨(bk BK817)⟩, ⟨bB⟩⟩
           ·
            rw [if_neg c43] at H
            exact absurd H (by simp)
          ·
           rw [if_neg c42] at H
           exact absurd H (by simp)
         ·
          replace c40 := Bool.eq_false_iff.mpr c40;subst c40
          have H1 : (tenorref8_Dates.j5 kj26 x5 x9_10 a0_0 a0_1 a0_2 a0_3 a0_4 a0_5 a0_6 a0_7 a0_8 l0_9) = some (r1, r2) := by rw [if_neg (show ¬ (false = true) by decide)] at H; exact H
          clear H;have H := H1;clear H1;have H' := Aside0.mk H;clear H
          go_wp2
          go_meet
          case rel => exact ⟨_, (x9_10), H', ⟨by have := HJ3.out; have := HJ10.out; have := HJ26.out; first | omega | exact Nat.le_refl _⟩, ⟨(bR HO_9)⟩, ⟨(bk BK817)⟩, ⟨bB⟩⟩
        case rest =>
         clear HC39
         obtain ⟨kq, x9_38, HA, HJ38, HO_9, BK817, HB⟩ := hcut
         cases kq with
         | zero => exact absurd HA.out (by simp [tenorref8_Dates.j5])
         | succ kj38 =>
          have H := HA.out;clear HA
          simp only [tenorref8_Dates.j5] at H
          obtain ⟨y827, hy827⟩ : ∃ y_ : List Int, y_ = (([a0_0] : List Int)) := ⟨_, rfl⟩
          replace H : (tenorref8_Dates.l1 kj38 x5 x9_38 y827 0 a0_0 a0_1 a0_2 a0_3 a0_4 a0_5 a0_6 a0_7 a0_8 l0_9) = some (r1, r2) := by first | (rw [hy827]; with_reducible exact H) | (have H2_ := (Option.bind_some _ _).symm.trans H; rw [hy827]; with_reducible exact H2_) | (have H2_ := (Option.bind_some _ _).symm.trans H; with_reducible exact H2_) | with_reducible exact H | (rw [hy827]; exact H) | exact H
          have Ny827 := Aside0.mk hy827;clear hy827;have H' := Aside0.mk H;clear H
          obtain ⟨_,_,_,_,_,_,_,_,_,_,_,_,_,_,_,_,_,_,_,_⟩ := blk10 BK817
          go_wp2_with (first | ((with_reducible refine gate_dst (N := 101) rfl ?_); (try (refine gate_guard (by rfl) ?_; dsimp only)); refine Kd.R_lit (Kd.int .i64) _ 3 ?hg (N := 101) ?hd (xs := ([a0_0] : List Int)) (inner := [.int .i64 a0_0]) (ok := fun _ => True) (okp := fun _ => True) ?hr ?hp (fun _ hk => hk) trivial (Below.refl _ _) (Nat.le_refl _) (by simp) ?_; (case hd => rfl); (case hg => rfl); (case hr => first | (go_simp; done) | (go_simp; rfl)); (case hp => exact (Reps.one (show Kd.M (Kd.int .i64) _ _ _ a0_0 [.int .i64 a0_0] from rfl) (Reps.none _ _))); intro v828 w47 ho48 hb hg_ hnew_; clear hg_ hnew_; (first | rw [← Ny827.out] at ho48 | (simp only [Int.reduceToNat] at ho48; rw [← Ny827.out] at ho48)); have HO829 := Aside0.mk (Kd.R_lower (Kd.R_new' ho48 (Kd.R_lt (bR HO_9))) (below_size bB)); replace HO_9 := Aside0.mk (Kd.R_elder' (bR HO_9) (Kd.R_base ho48) hb); replace BK817 := bK BK817 hb; replace HB := bS hb; clear hb ho48))
          go_loopg [14, 15] kj38 (fun kq v14 v15 w' => ∃ (x14_5 : List Int) (x15_5 : Int), v15 = .int .i64 x15_5 ∧ Aside0 (tenorref8_Dates.l1 kq x5 x9_38 x14_5 x15_5 a0_0 a0_1 a0_2 a0_3 a0_4 a0_5 a0_6 a0_7 a0_8 l0_9 = some (r1, r2)) ∧ Aside0 (kq ≤ kj38) ∧ Aside0 (Kd.R (Kd.int .i64) 3 w' w.heap.size (fun k_ => some k_ ≠ (v14 : Value).ownBlock) u9 x9_38) ∧ Aside0 (Kd.R (Kd.int .i64) 3 w' w.heap.size (fun k_ => some k_ ≠ (u9 : Value).ownBlock) v14 x14_5) ∧ Aside0 (w'.heap[gb817]? = some (.cells #[.int .i64 a0_0, .int .i64 a0_1, .int .i64 a0_2, .int .i64 a0_3, .int .i64 a0_4, .int .i64 a0_5, .int .i64 a0_6, .int .i64 a0_7, .int .i64 a0_8, (.slice A0_9 l0_9.length c0_9)] 66 (0, 0))) ∧ Aside0 (Below w.heap.size w w'))
          case atStart => exact ⟨(y827), (0), eS, H', ⟨Nat.le_refl _⟩, ⟨by (with_reducible repeat (first | apply Kd.R_alloc | apply Kd.R_drewN | apply Kd.R_drew)); exact Kd.R_mono HO_9.out (fun _ hk => hk.2)⟩, ⟨by (with_reducible repeat (first | apply Kd.R_alloc | apply Kd.R_drewN | apply Kd.R_drew)); exact Kd.R_mono HO829.out (fun _ hk => hk.2)⟩, ⟨(bk BK817)⟩, ⟨bB⟩⟩
          case round =>
           clear H'
           obtain ⟨x14_5, x15_5, rfl, HA, HK5, HO_9, HO_14, BK817, HB⟩ := hrel
           cases gk with
           | zero => exact absurd HA.out (by simp [tenorref8_Dates.l1])
           | succ k5 =>
            have H := HA.out;clear HA
            simp only [tenorref8_Dates.l1] at H
            by_cases c49 : x15_5 < (x9_38.length : Int)
            ·
             rw [if_pos c49] at H
             have c49b0 : decide (x15_5 < (x9_38.length : Int)) = true := decide_eq_true c49
             clear c49
             by_cases c50 : x5 = true
             ·
              rw [if_pos c50] at H
              have c50b0 : x5 = true := c50
              clear c50;subst c50b0
              obtain ⟨ji51, hji51⟩ : ∃ j_ : Int, (wrap64 ((wrap64 ((x9_38.length : Int) - 1)) - x15_5)) = j_ := ⟨_, rfl⟩
              replace H : (if 0 ≤ (ji51) then (if (ji51) < (x9_38.length : Int) then (if x14_5.length < 17592186044416 then (tenorref8_Dates.l1 k5 true x9_38 (x14_5 ++ [rd x9_38 (ji51)]) (wrap64 (x15_5 + 1)) a0_0 a0_1 a0_2 a0_3 a0_4 a0_5 a0_6 a0_7 a0_8 l0_9) else (none)) else (none)) else (none)) = some (r1, r2) := by first | (rw [hji51] at H; exact H) | (simp only [hji51] at H ⊢; exact H)
              have hji51w : (IntKind.i64.wrap ((wrap64 ((x9_38.length : Int) - 1)) - x15_5)) = ji51 := (i64_w _).trans hji51
              by_cases c52 : 0 ≤ (ji51)
              ·
               rw [if_pos c52] at H
               have c52b0 : decide (0 ≤ (ji51)) = true := decide_eq_true c52
               clear c52
               by_cases c53 : (ji51) < (x9_38.length : Int)
               ·
                rw [if_pos c53] at H
                have c53b0 : decide ((ji51) < (x9_38.length : Int)) = true := decide_eq_true c53
                clear c53
                by_cases c54 : x14_5.length < 17592186044416
                ·
                 rw [if_pos c54] at H
                 have LMc54 := Aside0.mk c54;clear c54
                 obtain ⟨y831, hy831⟩ : ∃ y_ : List Int, y_ = (x14_5 ++ [rd x9_38 (ji51)]) := ⟨_, rfl⟩
                 replace H : (tenorref8_Dates.l1 k5 true x9_38 y831 (wrap64 (x15_5 + 1)) a0_0 a0_1 a0_2 a0_3 a0_4 a0_5 a0_6 a0_7 a0_8 l0_9) = some (r1, r2) := by first | (rw [hy831]; with_reducible exact H) | (have H2_ := (Option.bind_some _ _).symm.trans H; rw [hy831]; with_reducible exact H2_) | (have H2_ := (Option.bind_some _ _).symm.trans H; with_reducible exact H2_) | with_reducible exact H | (rw [hy831]; exact H) | exact H
                 have Ny831 := Aside0.mk hy831;clear hy831;have H' := Aside0.mk H;clear H
                 obtain ⟨Ao55, co55, eo55⟩ := Kd.R_slice HO_9.out
                 subst eo55
                 have p830 : 0 ≤ ((ji51) : Int) := of_decide_eq_true tA
                 have q830 : (ji51) < (x9_38.length : Int) := of_decide_eq_true tA
                 obtain ⟨ad830, e830, hx830_0⟩ := Kd.at_int (Kd.R_reads' HO_9.out).2.2 (ji51) p830 q830
                 cases e830
                 replace p830 := eq_true p830;replace q830 := eq_true q830
                 go_wp2_with (first | ((with_reducible refine gate_builtin (b := .append) (xs := #[.tmp 109, .tmp 118]) rfl ?_); (try (refine gate_guard (by rfl) ?_; dsimp only)); at_builtin; refine Kd.R_append (Kd.int .i64) (w0 := w) w.heap.size rfl (.tmp 109) (.tmp 118) 67 3 (.int .i64 0) 8 rfl Try.underlying67 info3 rfl (by decide) (by omega) u14 x14_5 (rd x9_38 (ji51)) [.int .i64 (rd x9_38 (ji51))] (fun k_ => some k_ ≠ (.slice (some ad830) x9_38.length co55 : Value).ownBlock) (fun _ => False) rfl rfl ?aP (fun _ hk => hk.elim) ?aF ?aO ?aB ?aS ?aL ?_; (case aP => exact rfl); (case aB => exact bB); (case aF => exact (fun k_ hk => Kd.fresh' (Kd.R_lt (bR HO_9)) k_ hk)); (case aO => exact (bR HO_14)); (case aS => exact (below_size bB)); (case aL => have := LMc54.out; omega); intro v832 w56 ho hb hg hat; rw [← Ny831.out] at ho; replace HO_9 := Aside0.mk (Kd.R_after (ok := (fun _ => True)) (by (with_reducible repeat (first | apply Kd.R_alloc | apply Kd.R_drewN | apply Kd.R_drew)); exact Kd.R_mono HO_9.out (fun _ hk => ⟨trivial, hk⟩)) hg hat); replace BK817 := Aside0.mk (blk_grown (g := gb817) (o := .cells #[.int .i64 a0_0, .int .i64 a0_1, .int .i64 a0_2, .int .i64 a0_3, .int .i64 a0_4, .int .i64 a0_5, .int .i64 a0_6, .int .i64 a0_7, .int .i64 a0_8, .slice A0_9 l0_9.length c0_9] 66 (0, 0)) (bk BK817) hg (Kd.R_ne HO_14.out BK817.out (by decide))); replace HB := Aside0.mk (hb); have HO833 := Aside0.mk (ho); clear HO_14; clear ho hb hg hat))
                 go_roundg k5
                 case measure => have := HJ3.out; have := HJ10.out; have := HJ26.out; have := HJ38.out; have := HK5.out; omega
                 case rel => exact ⟨(y831), (wrap64 (x15_5 + 1)), eS, H', ⟨by have := HJ3.out; have := HJ10.out; have := HJ26.out; have := HJ38.out; have := HK5.out; omega⟩, ⟨by (with_reducible repeat (first | apply Kd.R_alloc | apply Kd.R_drewN | apply Kd.R_drew)); exact Kd.R_mono HO_9.out (fun _ hk => hk.2)⟩, ⟨(bR HO833)⟩, ⟨(bk BK817)⟩, ⟨bB⟩⟩
                ·
                 rw [if_neg c54] at H
                 exact absurd H (by simp)
               ·
                rw [if_neg c53] at H
                exact absurd H (by simp)
              ·
               rw [if_neg c52] at H
               exact absurd H (by simp)
             ·
              rw [if_neg c50] at H
              have c50b0 : x5 = false := by simpa using c50
              clear c50;subst c50b0
              by_cases c57 : 0 ≤ x15_5
              ·
               rw [if_pos c57] at H
               have c57b0 : decide (0 ≤ x15_5) = true := decide_eq_true c57
               clear c57
               by_cases c58 : x14_5.length < 17592186044416
               ·
                rw [if_pos c58] at H
                have LMc58 := Aside0.mk c58;clear c58
                obtain ⟨y835, hy835⟩ : ∃ y_ : List Int, y_ = (x14_5 ++ [rd x9_38 x15_5]) := ⟨_, rfl⟩
                replace H : (tenorref8_Dates.l1 k5 false x9_38 y835 (wrap64 (x15_5 + 1)) a0_0 a0_1 a0_2 a0_3 a0_4 a0_5 a0_6 a0_7 a0_8 l0_9) = some (r1, r2) := by first | (rw [hy835]; with_reducible exact H) | (have H2_ := (Option.bind_some _ _).symm.trans H; rw [hy835]; with_reducible exact H2_) | (have H2_ := (Option.bind_some _ _).symm.trans H; with_reducible exact H2_) | with_reducible exact H | (rw [hy835]; exact H) | exact H
                have Ny835 := Aside0.mk hy835;clear hy835;have H' := Aside0.mk H;clear H
                obtain ⟨Ao59, co59, eo59⟩ := Kd.R_slice HO_9.out
                subst eo59
                have p834 : 0 ≤ (x15_5 : Int) := of_decide_eq_true tA
                have q834 : x15_5 < (x9_38.length : Int) := of_decide_eq_true tA
                obtain ⟨ad834, e834, hx834_0⟩ := Kd.at_int (Kd.R_reads' HO_9.out).2.2 x15_5 p834 q834
                cases e834
                replace p834 := eq_true p834;replace q834 := eq_true q834
                go_wp2_with (first | ((with_reducible refine gate_builtin (b := .append) (xs := #[.tmp 120, .tmp 125]) rfl ?_); (try (refine gate_guard (by rfl) ?_; dsimp only)); at_builtin; refine Kd.R_append (Kd.int .i64) (w0 := w) w.heap.size rfl (.tmp 120) (.tmp 125) 67 3 (.int .i64 0) 8 rfl Try.underlying67 info3 rfl (by decide) (by omega) u14 x14_5 (rd x9_38 x15_5) [.int .i64 (rd x9_38 x15_5)] (fun k_ => some k_ ≠ (.slice (some ad834) x9_38.length co59 : Value).ownBlock) (fun _ => False) rfl rfl ?aP (fun _ hk => hk.elim) ?aF ?aO ?aB ?aS ?aL ?_; (case aP => exact rfl); (case aB => exact bB); (case aF => exact (fun k_ hk => Kd.fresh' (Kd.R_lt (bR HO_9)) k_ hk)); (case aO => exact (bR HO_14)); (case aS => exact (below_size bB)); (case aL => have := LMc58.out; omega); intro v836 w60 ho hb hg hat; rw [← Ny835.out] at ho; replace HO_9 := Aside0.mk (Kd.R_after (ok := (fun _ => True)) (by (with_reducible repeat (first | apply Kd.R_alloc | apply Kd.R_drewN | apply Kd.R_drew)); exact Kd.R_mono HO_9.out (fun _ hk => ⟨trivial, hk⟩)) hg hat); replace BK817 := Aside0.mk (blk_grown (g := gb817) (o := .cells #[.int .i64 a0_0, .int .i64 a0_1, .int .i64 a0_2, .int .i64 a0_3, .int .i64 a0_4, .int .i64 a0_5, .int .i64 a0_6, .int .i64 a0_7, .int .i64 a0_8, .slice A0_9 l0_9.length c0_9] 66 (0, 0)) (bk BK817) hg (Kd.R_ne HO_14.out BK817.out (by decide))); replace HB := Aside0.mk (hb); have HO837 := Aside0.mk (ho); clear HO_14; clear ho hb hg hat))
                go_roundg k5
                case measure => have := HJ3.out; have := HJ10.out; have := HJ26.out; have := HJ38.out; have := HK5.out; omega
                case rel => exact ⟨(y835), (wrap64 (x15_5 + 1)), eS, H', ⟨by have := HJ3.out; have := HJ10.out; have := HJ26.out; have := HJ38.out; have := HK5.out; omega⟩, ⟨by (with_reducible repeat (first | apply Kd.R_alloc | apply Kd.R_drewN | apply Kd.R_drew)); exact Kd.R_mono HO_9.out (fun _ hk => hk.2)⟩, ⟨(bR HO837)⟩, ⟨(bk BK817)⟩, ⟨bB⟩⟩
               ·
                rw [if_neg c58] at H
                exact absurd H (by simp)
              ·
               rw [if_neg c57] at H
               exact absurd H (by simp)
            ·
             rw [if_neg c49] at H
             have c49b0 : decide (x15_5 < (x9_38.length : Int)) = false := decide_eq_false c49
             clear c49
             by_cases c61 : x14_5.length < 17592186044416
             ·
              rw [if_pos c61] at H
              have LMc61 := Aside0.mk c61;clear c61
              obtain ⟨y838, hy838⟩ : ∃ y_ : List Int, y_ = (x14_5 ++ [a0_1]) := ⟨_, rfl⟩
              replace H : (some (y838, 0)) = some (r1, r2) := by first | (rw [hy838]; with_reducible exact H) | (have H2_ := (Option.bind_some _ _).symm.trans H; rw [hy838]; with_reducible exact H2_) | (have H2_ := (Option.bind_some _ _).symm.trans H; with_reducible exact H2_) | with_reducible exact H | (rw [hy838]; exact H) | exact H
              have Ny838 := Aside0.mk hy838;clear hy838
              simp only [Option.some.injEq, Prod.mk.injEq] at H
              obtain ⟨rfl, rfl⟩ := H
              obtain ⟨Ao62, co62, eo62⟩ := Kd.R_slice HO_9.out
              subst eo62
              obtain ⟨_,_,_,_,_,_,_,_,_,_,_,_,_,_,_,_,_,_,_,_⟩ := blk10 BK817
              go_wp2_with (first | ((with_reducible refine gate_builtin (b := .append) (xs := #[.tmp 127, .tmp 130]) rfl ?_); (try (refine gate_guard (by rfl) ?_; dsimp only)); at_builtin; refine Kd.R_append (Kd.int .i64) (w0 := w) w.heap.size rfl (.tmp 127) (.tmp 130) 67 3 (.int .i64 0) 8 rfl Try.underlying67 info3 rfl (by decide) (by omega) u14 x14_5 a0_1 [.int .i64 a0_1] (fun k_ => some k_ ≠ (.slice Ao62 x9_38.length co62 : Value).ownBlock) (fun _ => False) rfl rfl ?aP (fun _ hk => hk.elim) ?aF ?aO ?aB ?aS ?aL ?_; (case aP => exact rfl); (case aB => exact bB); (case aF => exact (fun k_ hk => Kd.fresh' (Kd.R_lt (bR HO_9)) k_ hk)); (case aO => exact (bR HO_14)); (case aS => exact (below_size bB)); (case aL => have := LMc61.out; omega); intro v839 w64 ho hb hg hat; rw [← Ny838.out] at ho; replace HO_9 := Aside0.mk (Kd.R_after (ok := (fun _ => True)) (by (with_reducible repeat (first | apply Kd.R_alloc | apply Kd.R_drewN | apply Kd.R_drew)); exact Kd.R_mono HO_9.out (fun _ hk => ⟨trivial, hk⟩)) hg hat); replace BK817 := Aside0.mk (blk_grown (g := gb817) (o := .cells #[.int .i64 a0_0, .int .i64 a0_1, .int .i64 a0_2, .int .i64 a0_3, .int .i64 a0_4, .int .i64 a0_5, .int .i64 a0_6, .int .i64 a0_7, .int .i64 a0_8, .slice A0_9 l0_9.length c0_9] 66 (0, 0)) (bk BK817) hg (Kd.R_ne HO_14.out BK817.out (by decide))); replace HB := Aside0.mk (hb); have HO840 := Aside0.mk (ho); clear HO_14; clear ho hb hg hat))
              go_ret2
              exact ⟨_, eW, by (with_reducible repeat (first | apply Kd.R_alloc | apply Kd.R_drewN | apply Kd.R_drew)); exact Kd.R_mono HO840.out (fun _ hk => trivial), bB⟩
             ·
              rw [if_neg c61] at H
              exact absurd H (by simp)
 ·
  rw [if_neg c3] at H
  have c3b0 : (t818 == 0) = false := beq_eq_false_iff_ne.mpr c3
  have c3b1 : (t818 != 0) = true := bne_iff_ne.mpr c3
  simp only [Option.some.injEq, Prod.mk.injEq] at H
  obtain ⟨rfl, rfl⟩ := H
  go_enter Try.func51, Try.ntmps51
  go_wp2_with (first | ((with_reducible refine gate_dst (N := 1) rfl ?_); (try (refine gate_guard (by rfl) ?_; dsimp only)); refine box_event ?hg (N := 1) ?hd (cs := #[.int .i64 a0_0, .int .i64 a0_1, .int .i64 a0_2, .int .i64 a0_3, .int .i64 a0_4, .int .i64 a0_5, .int .i64 a0_6, .int .i64 a0_7, .int .i64 a0_8, .slice A0_9 l0_9.length c0_9]) (t := 66) ?hr ?_; (case hd => rfl); (case hg => rfl); (case hr => first | (go_simp; done) | (go_simp; rfl)); intro gb817 hg w65 hbox hb; have BK817 := Aside0.mk (hbox); have GW817 := bG hg; have GE817 := bG hg; replace HB := bS hb; clear hb hbox hg; obtain ⟨_,_,_,_,_,_,_,_,_,_,_,_,_,_,_,_,_,_,_,_⟩ := blk10 BK817) | ((with_reducible refine gG 58 ?_); refine goA (some 17) Try.func58 #[.agg #[.int .i64 a0_0, .int .i64 a0_1, .int .i64 a0_2, .int .i64 a0_3, .int .i64 a0_4, .int .i64 a0_5, .int .i64 a0_6, .int .i64 a0_7, .int .i64 a0_8, .slice A0_9 l0_9.length c0_9]] ?_; (with_reducible refine (tenorref8_Check.calls k a0_0 a0_1 a0_2 a0_3 a0_4 a0_5 a0_6 a0_7 a0_8 _ _ l0_9 t818 _ ?side1 ?side2 A2.out).mono ?_); (case side1 => exact sC HR0_9); (case side2 => exact HC0_9.out); rintro e w67 ⟨rfl, hb⟩; refine ⟨_, rfl, ?_⟩; replace BK817 := bK BK817 hb; replace HB := bS hb; (try clear hb); (try clear hb2); (try clear hk); (try clear hi)))
  go_ret2
  exact ⟨_, eW, by first | exact Kd.R_nil _ _ _ _ _ | exact Kd.N_nil _ _ _ _ _ | exact Kd.V_nil _ _ _ _ _ | exact Kd.Q_nil _ _ _ _ _ | exact Kd.S_nil _ _ _ _ _, bB⟩
end Go.Proofs.Ytoncignjcgjhhaa.Q
namespace Go.Proofs.Ytoncignjcgjhhaa.S
open Go.RowKit Go.Proofs.YtoncignjcgjhhaaW.PrintWords Go.Proofs.YtoncignjcgjhhaaW.PrintLast Go.Proofs.YtoncignjcgjhhaaW.PrintMore
open Go.Proofs.Ytoncignjcgjhhaa.Q
open Go.Proofs.Ytoncignjcgjhhaa.L (w64 td tm tm0)
theorem rD_l1 (s : Sp) (b : Bool) (l : List Int) (hl : l.length ≤ 5000) : ∀ (f i : Nat), l.length - i = f → i ≤ l.length →
  Ev (fun q => tenorref8_Dates.l1 q b l (s.a :: (ordL b l).take i) (i : Int) s.a s.b s.n s.u s.st s.ro s.cv s.lag s.we s.l) (s.a :: ordL b l ++ [s.b], (0 : Int))
 | 0, i, hf, hi => by
  have c1 : ¬ (i : Int) < (l.length : Int) := by omega
  have e : (ordL b l).take i = ordL b l := List.take_of_length_le (by rw [ord_len]; omega)
  have c2 : (s.a :: ordL b l).length < 17592186044416 := by rw [List.length_cons, ord_len]; omega
  refine Ev.step (f := fun _ => some (s.a :: ordL b l ++ [s.b], (0 : Int))) (fun q => ?_) (Ev.now _)
  rw [tenorref8_Dates.l1, if_neg c1, e, if_pos c2]
 | f + 1, i, hf, hi => by
  have hlt : i < l.length := by omega
  have c1 : (i : Int) < (l.length : Int) := by omega
  have c0 : (0 : Int) ≤ (i : Int) := by omega
  have hw : wrap64 ((i : Int) + 1) = ((i + 1 : Nat) : Int) := by rw [w64 (by omega) (by omega)]; push_cast; rfl
  have hv : wrap64 (wrap64 ((l.length : Int) - 1) - (i : Int)) = (l.length : Int) - 1 - (i : Int) := by rw [w64 (x := (l.length : Int) - 1) (by omega) (by omega), w64 (by omega) (by omega)]
  have c2 : (s.a :: (ordL b l).take i).length < 17592186044416 := by rw [List.length_cons, List.length_take]; omega
  have c3 : (0 : Int) ≤ (l.length : Int) - 1 - (i : Int) := by omega
  have c4 : (l.length : Int) - 1 - (i : Int) < (l.length : Int) := by omega
  have hsn : (ordL b l).take i ++ [if b = true then rd l ((l.length : Int) - 1 - (i : Int)) else rd l (i : Int)] = (ordL b l).take (i + 1) := by
   rw [← ord_rd b l i hlt]; exact take_snoc _ i _
  refine Ev.step (fun q => ?_) (rD_l1 s b l hl f (i + 1) (by omega) (by omega))
  rw [tenorref8_Dates.l1, if_pos c1, hw, hv, ← hsn]
  cases b with
  | true => rw [if_pos rfl, if_pos c3, if_pos c4, if_pos c2, if_pos rfl]; rfl
  | false => rw [if_neg (by decide), if_pos c0, if_pos c2, if_neg (by decide)]; rfl
theorem rD_j5 (s : Sp) (b : Bool) (l : List Int) (hl : l.length ≤ 5000) : Ev (fun q => tenorref8_Dates.j5 q b l s.a s.b s.n s.u s.st s.ro s.cv s.lag s.we s.l) (s.a :: ordL b l ++ [s.b], (0 : Int)) := by
  have h := rD_l1 s b l hl l.length 0 (by omega) (by omega)
  exact Ev.step (fun q => by rw [tenorref8_Dates.j5]; rfl) h
theorem rD_j3 (s : Sp) (b e : Bool) (l : List Int) (hl : l.length ≤ 5000) : Ev (fun q => tenorref8_Dates.j3 q b l e s.a s.b s.n s.u s.st s.ro s.cv s.lag s.we s.l) (s.a :: ordL b (cutL s.long e l) ++ [s.b], (0 : Int)) := by
 have h6 : ∀ t : Bool, (t = true ↔ s.long = true ∧ e = false ∧ 0 < l.length) → Ev (fun q => tenorref8_Dates.j4 q b l t s.a s.b s.n s.u s.st s.ro s.cv s.lag s.we s.l) (s.a :: ordL b (cutL s.long e l) ++ [s.b], (0 : Int)) := by
  intro t ht
  cases t with
  | true =>
   have h := ht.1 rfl
   have hw : wrap64 ((l.length : Int) - 1) = (l.length : Int) - 1 := w64 (by omega) (by omega)
   have c1 : (0 : Int) ≤ (l.length : Int) - 1 := by omega
   have c2 : (l.length : Int) - 1 ≤ (l.length : Int) := by omega
   have e1 : ((l.length : Int) - 1).toNat = l.length - 1 := by omega
   have e2 : cutL s.long e l = l.take (l.length - 1) := if_pos h
   rw [e2]
   refine Ev.step (fun q => ?_) (rD_j5 s b (l.take (l.length - 1)) (by rw [List.length_take]; omega))
   rw [tenorref8_Dates.j4, if_pos rfl, hw, if_pos c1, if_pos c2, e1]
  | false =>
   have e2 : cutL s.long e l = l := if_neg (fun h => by have := ht.2 h; cases this)
   rw [e2]
   exact Ev.step (fun q => by rw [tenorref8_Dates.j4, if_neg (by decide)]) (rD_j5 s b l hl)
 have h5 : s.long = true → Ev (fun q => if e = true then tenorref8_Dates.j4 q b l false s.a s.b s.n s.u s.st s.ro s.cv s.lag s.we s.l else tenorref8_Dates.j4 q b l (decide ((l.length : Int) > 0)) s.a s.b s.n s.u s.st s.ro s.cv s.lag s.we s.l) (s.a :: ordL b (cutL s.long e l) ++ [s.b], (0 : Int)) := by
  intro hlg
  refine ev_ite (fun he => h6 false (by simp [he])) (fun he => h6 _ ?_)
  rw [decide_eq_true_iff]
  constructor
  ·
   intro h; exact ⟨hlg, Bool.eq_false_iff.2 he, by omega⟩
  ·
   intro h; have := h.2.2; omega
 refine Ev.step (fun q => by rw [tenorref8_Dates.j3]) (ev_ite (fun h2 => h5 (by unfold Sp.long; rw [decide_eq_true (Or.inl h2)])) (fun h2 => ev_ite (fun h4 => h5 (by unfold Sp.long; rw [decide_eq_true (Or.inr h4)])) (fun h4 => h6 false ?_)))
 have : s.long = false := decide_eq_false (fun h => h.elim h2 h4)
 rw [this]; simp
theorem rD_l0 (s : Sp) (hf : s.fit) (b : Bool) (x z d : Int) (hx : 0 ≤ x ∧ x ≤ 109572) (hd : d = 1 ∨ d = -1) (R : List Int × Int) : ∀ (f i : Nat) (acc : List Int), i + f = 1200 → acc.length = i →
  (match s.inn b x z d f i with | none => R = ([], 81) | some (l, e) => R = (s.a :: ordL b (cutL s.long e (acc ++ l)) ++ [s.b], 0)) → f ≠ 0 →
  Ev (fun q => tenorref8_Dates.l0 q b x z d acc ((i : Int) + 1) s.a s.b s.n s.u s.st s.ro s.cv s.lag s.we s.l) R
 | 0, i, acc, h1, h2, h3, h4 => absurd rfl h4
 | f + 1, i, acc, h1, h2, h3, _ => by
  have hp := rPoint s x (d * ((i : Int) + 1)) hf
  rw [if_pos hx] at hp
  have hw2 : wrap64 (((i : Int) + 1) * d) = d * ((i : Int) + 1) := by
   rw [Int.mul_comm]
   rcases hd with rfl | rfl <;> exact w64 (by omega) (by omega)
  have hs : ∀ q, tenorref8_Dates.l0 (q + 1) b x z d acc ((i : Int) + 1) s.a s.b s.n s.u s.st s.ro s.cv s.lag s.we s.l = _ := fun q => by rw [tenorref8_Dates.l0, hw2]
  refine Ev.step hs (Ev.bind hp ?_)
  clear hs
  rw [Sp.inn] at h3
  cases ho : s.pt x (d * ((i : Int) + 1)) with
  | none =>
   rw [ho] at h3
   simp only at h3
   rw [List.append_nil] at h3
   rw [h3]
   exact Ev.congr (fun q => if_neg (by decide)) (Ev.step (fun q => by rw [tenorref8_Dates.j2, if_pos rfl, show (told none).2 = false from rfl, if_neg (by decide)]) (rD_j3 s b false acc (by omega)))
  | some n =>
   rw [ho] at h3
   simp only at h3
   refine Ev.congr (fun q => if_pos rfl) ?_
   have hj2 : ∀ t : Bool, (t = true ↔ (n = z ∨ (if b = true then n < z else n > z))) → Ev (fun q => tenorref8_Dates.j2 q b x z d acc ((i : Int) + 1) n true t s.a s.b s.n s.u s.st s.ro s.cv s.lag s.we s.l) R := by
    intro t htt
    cases t with
    | true =>
     refine Ev.step (fun q => by rw [tenorref8_Dates.j2, if_pos rfl, if_pos rfl]) ?_
     by_cases hz : n = z
     ·
      rw [if_pos hz] at h3
      simp only at h3
      rw [List.append_nil] at h3
      rw [h3, beq_iff_eq.2 hz]
      exact rD_j3 s b true acc (by omega)
     ·
      rw [if_neg hz, if_pos ((htt.1 rfl).resolve_left hz)] at h3
      simp only at h3
      rw [List.append_nil] at h3
      rw [h3, beq_eq_false_iff_ne.2 hz]
      exact rD_j3 s b false acc (by omega)
    | false =>
     have hno : ¬ (n = z ∨ (if b = true then n < z else n > z)) := fun h => by have := htt.2 h; cases this
     rw [if_neg (fun h => hno (.inl h)), if_neg (fun h => hno (.inr h))] at h3
     have c6 : acc.length < 17592186044416 := by omega
     have e1 : (acc ++ [n]).length = i + 1 := by rw [List.length_append, h2]; rfl
     have hw3 : wrap64 (((acc ++ [n]).length : Int) + 1) = (i : Int) + 2 := by rw [e1, w64 (by omega) (by omega)]; omega
     have hs2 : ∀ q, tenorref8_Dates.j2 (q + 1) b x z d acc ((i : Int) + 1) n true false s.a s.b s.n s.u s.st s.ro s.cv s.lag s.we s.l = if (i : Int) + 2 > 1200 then some (([] : List Int), 81) else tenorref8_Dates.l0 q b x z d (acc ++ [n]) (wrap64 ((i : Int) + 1 + 1)) s.a s.b s.n s.u s.st s.ro s.cv s.lag s.we s.l := fun q => by
      rw [tenorref8_Dates.j2, if_neg (by decide), if_pos c6, Option.bind_some, hw3]
     refine Ev.step hs2 ?_
     by_cases c5 : 1200 < (i : Int) + 2
     ·
      rw [if_pos c5] at h3
      simp only at h3
      rw [h3]
      exact Ev.congr (fun q => if_pos c5) (Ev.now _)
     ·
      rw [if_neg c5] at h3
      have hw4 : wrap64 ((i : Int) + 1 + 1) = ((i + 1 : Nat) : Int) + 1 := by rw [w64 (by omega) (by omega)]; omega
      refine Ev.congr (fun q => by rw [if_neg c5, hw4]) (rD_l0 s hf b x z d hx hd R f (i + 1) (acc ++ [n]) (by omega) e1 ?_ (by omega))
      cases hi : s.inn b x z d f (i + 1) with
      | none => rw [hi] at h3; exact h3
      | some le => rw [hi] at h3; simpa using h3
   show Ev (fun q => if b = true then if n ≤ z then tenorref8_Dates.j2 q b x z d acc ((i : Int) + 1) n true true s.a s.b s.n s.u s.st s.ro s.cv s.lag s.we s.l else tenorref8_Dates.j2 q b x z d acc ((i : Int) + 1) n true false s.a s.b s.n s.u s.st s.ro s.cv s.lag s.we s.l else tenorref8_Dates.j2 q b x z d acc ((i : Int) + 1) n true (decide (n ≥ z)) s.a s.b s.n s.u s.st s.ro s.cv s.lag s.we s.l) R
   refine ev_ite (fun hb => ev_ite (fun c => hj2 true ?_) (fun c => hj2 false ?_)) (fun hb => hj2 _ ?_)
   ·
    rw [if_pos hb]; exact ⟨fun _ => by omega, fun _ => rfl⟩
   ·
    rw [if_pos hb]; exact ⟨fun h => (by cases h), fun h => by omega⟩
   ·
    rw [if_neg hb, decide_eq_true_iff]; omega
theorem rDates (s : Sp) : Ev (fun q => tenorref8_Dates.f q s.a s.b s.n s.u s.st s.ro s.cv s.lag s.we s.l) s.dates := by
 refine Ev.congr (fun q => by unfold tenorref8_Dates.f; rfl) (Ev.bind (rCheck s) ?_)
 unfold Sp.dates
 by_cases hc : s.chk = 0
 ·
  rw [if_pos hc]
  obtain ⟨hd, hf, _⟩ := chk_ok hc
  have hb : ∀ p : Prop, [Decidable p] → (p ↔ s.st ≤ 2) → decide p = s.back := fun p _ h => by unfold Sp.back; rw [decide_eq_decide]; exact h
  refine Ev.congr (fun q => if_pos hc) ?_
  unfold Sp.out
  by_cases h2 : s.st ≤ 2
  ·
   have hbk : s.back = true := decide_eq_true h2
   rw [hbk, if_pos rfl]
   refine Ev.congr (fun q => by rw [if_pos h2, decide_eq_true h2]) (Ev.step (fun q => by rw [tenorref8_Dates.j0]; rfl) (rD_l0 s hf true s.b s.a (-1) hd.2 (.inr rfl) _ 1200 0 [] rfl rfl ?_ (by decide)))
   cases s.inn true s.b s.a (-1) 1200 0 <;> rfl
  ·
   have hbk : s.back = false := decide_eq_false h2
   rw [hbk, if_neg (by decide)]
   refine Ev.congr (fun q => by rw [if_neg h2, decide_eq_false h2]) (Ev.step (fun q => by rw [tenorref8_Dates.j0]; rfl) (rD_l0 s hf false s.a s.b 1 hd.1 (.inl rfl) _ 1200 0 [] rfl rfl ?_ (by decide)))
   cases s.inn false s.a s.b 1 1200 0 <;> rfl
 ·
  rw [if_neg hc]
  exact Ev.congr (fun q => if_neg hc) (Ev.now _)
end Go.Proofs.Ytoncignjcgjhhaa.S
namespace Go.Proofs.Ytoncignjcgjhhaa.Q
open Go.RowKit Go.Proofs.YtoncignjcgjhhaaW.PrintWords Go.Proofs.YtoncignjcgjhhaaW.PrintLast Go.Proofs.YtoncignjcgjhhaaW.PrintMore
attribute [local go_sem] max2_int min2_int max_two min_two max_three min_three max_four min_four   -- for this text's walks alone
def tenorref6_nth.l0 : Nat → Int → Int → Int → Int → Int → Option (Int)
  | 0, _, _, _, _, _ => none
  | k + 1, x2, x3, x9, x11, x13 => if (Int.tmod x13 7) = x2 then (if x3 = 5 then (if (wrap64 (x13 + (wrap64 (7 * (wrap64 (x3 - 1)))))) ≥ (wrap64 (x9 + x11)) then (some (wrap64 ((wrap64 (x13 + (wrap64 (7 * (wrap64 (x3 - 1)))))) - 7))) else (some (wrap64 (x13 + (wrap64 (7 * (wrap64 (x3 - 1)))))))) else (some (wrap64 (x13 + (wrap64 (7 * (wrap64 (x3 - 1)))))))) else (tenorref6_nth.l0 k x2 x3 x9 x11 (wrap64 (x13 + 1)))
def tenorref6_nth.f (k : Nat) (a0 a1 a2 a3 : Int) : Option (Int) := (tenorref5_Of.f k a0 a1 1).bind fun bt199 => ((tenorref5_Length.f k a0 a1).bind fun bt201 => (tenorref6_nth.l0 k a2 a3 bt199.1 bt201.1 bt199.1))
set_option maxHeartbeats 8000000 in
set_option maxRecDepth 100000 in
theorem tenorref6_nth.calls (k : Nat) (a0 a1 a2 a3 r : Int) (w : World) (h : tenorref6_nth.f k a0 a1 a2 a3 = some r) :
  Calls Try.prog 133 #[.int .i64 a0, .int .i64 a1, .int .i64 a2, .int .i64 a3] w fun e w' => e = .returned (.int .i64 r) ∧ Drawn0 w w' := by
 have H : ((tenorref5_Of.f k a0 a1 1).bind fun bt199 => ((tenorref5_Length.f k a0 a1).bind fun bt201 => (tenorref6_nth.l0 k a2 a3 bt199.1 bt201.1 bt199.1))) = some r := h
 clear h;replace H := Option.bind_eq_some_iff.mp H
 obtain ⟨⟨t199, t200⟩, A50, H⟩ := H
 replace H : ((tenorref5_Length.f k a0 a1).bind fun bt201 => (tenorref6_nth.l0 k a2 a3 t199 bt201.1 t199)) = some r := H
 have A5 := Aside0.mk A50;clear A50;replace H := Option.bind_eq_some_iff.mp H
 obtain ⟨⟨t201, t202⟩, A60, H⟩ := H
 replace H : (tenorref6_nth.l0 k a2 a3 t199 t201 t199) = some r := H
 have A6 := Aside0.mk A60;clear A60;have H' := Aside0.mk H;clear H
 go_enter Try.func133, Try.ntmps133
 go_wp2_with (first | ((with_reducible refine gG 97 ?_); refine goA (some 17) Try.func97 #[.int .i64 a0, .int .i64 a1, .int .i64 1] ?_; (with_reducible refine (tenorref5_Of.calls k a0 a1 1 t199 t200 _ A5.out).mono ?_); rintro e w' ⟨rfl, ⟨nd, rfl⟩⟩; refine ⟨_, rfl, ?_⟩) | ((with_reducible refine gG 117 ?_); refine goA (some 23) Try.func117 #[.int .i64 a0, .int .i64 a1] ?_; (with_reducible refine (tenorref5_Length.calls k a0 a1 t201 t202 _ A6.out).mono ?_); rintro e w' ⟨rfl, ⟨nd, rfl⟩⟩; refine ⟨_, rfl, ?_⟩))
 go_loopg [13] k (fun kq v13 w' => ∃ (x13_1 : Int), v13 = .int .i64 x13_1 ∧ Aside0 (tenorref6_nth.l0 kq a2 a3 t199 t201 x13_1 = some r) ∧ Aside0 (kq ≤ k) ∧ Drawn0 w w')
 case atStart => exact ⟨(t199), eS, H', ⟨Nat.le_refl _⟩, eD⟩
 case round =>
  clear H'
  obtain ⟨x13_1, rfl, HA, HK1, ⟨m1, rfl⟩⟩ := hrel
  cases gk with
  | zero => exact absurd HA.out (by simp [tenorref6_nth.l0])
  | succ k1 =>
   have H := HA.out;clear HA
   simp only [tenorref6_nth.l0] at H
   by_cases c7 : (Int.tmod x13_1 7) = a2
   ·
    rw [if_pos c7] at H
    have c7b0 : ((Int.tmod x13_1 7) == a2) = true := beq_iff_eq.mpr c7
    have c7b1 : ((Int.tmod x13_1 7) != a2) = false := bne_eq_false_iff_eq.mpr c7
    clear c7
    by_cases c8 : a3 = 5
    ·
     rw [if_pos c8] at H
     have c8b0 : (a3 == 5) = true := beq_iff_eq.mpr c8
     have c8b1 : (a3 != 5) = false := bne_eq_false_iff_eq.mpr c8
     clear c8
     by_cases c9 : (wrap64 (x13_1 + (wrap64 (7 * (wrap64 (a3 - 1)))))) ≥ (wrap64 (t199 + t201))
     ·
      rw [if_pos c9] at H
      have c9b0 : decide ((wrap64 (t199 + t201)) ≤ (wrap64 (x13_1 + (wrap64 (7 * (wrap64 (a3 - 1))))))) = true := decide_eq_true c9
      clear c9
      obtain rfl := Option.some.inj H
      go_wp2
      go_ret
      exact ⟨eS, eD⟩
     ·
      rw [if_neg c9] at H
      have c9b0 : decide ((wrap64 (t199 + t201)) ≤ (wrap64 (x13_1 + (wrap64 (7 * (wrap64 (a3 - 1))))))) = false := decide_eq_false c9
      clear c9
      obtain rfl := Option.some.inj H
      go_wp2
      go_ret
      exact ⟨eS, eD⟩
    ·
     rw [if_neg c8] at H
     have c8b0 : (a3 == 5) = false := beq_eq_false_iff_ne.mpr c8
     have c8b1 : (a3 != 5) = true := bne_iff_ne.mpr c8
     obtain rfl := Option.some.inj H
     go_wp2
     go_ret
     exact ⟨eS, eD⟩
   ·
    rw [if_neg c7] at H
    have c7b0 : ((Int.tmod x13_1 7) == a2) = false := beq_eq_false_iff_ne.mpr c7
    have c7b1 : ((Int.tmod x13_1 7) != a2) = true := bne_iff_ne.mpr c7
    have H' := Aside0.mk H;clear H
    go_wp2
    go_roundg k1
    case measure => have := HK1.out; omega
    case rel => exact ⟨(wrap64 (x13_1 + 1)), eS, H', ⟨by have := HK1.out; omega⟩, eD⟩
end Go.Proofs.Ytoncignjcgjhhaa.Q
namespace Go.Proofs.Ytoncignjcgjhhaa.H
open Go.RowKit Go.Maps Go.Proofs.YtoncignjcgjhhaaW.PrintWords Go.Proofs.YtoncignjcgjhhaaW.PrintLast Go.Proofs.YtoncignjcgjhhaaW.PrintMore
theorem easter_of (y m d : Int) (h0 : 1900 ≤ y) (h1 : y ≤ 2199) (em : m = M.eT y / 31) (ed : d = M.eT y % 31 + 1) (w : World) :
  Calls Try.prog 97 #[.int .i64 y, .int .i64 m, .int .i64 d] w fun e w' => e = .returned (.tuple #[.int .i64 (M.easterDay y), .int .i64 0]) ∧ Drawn0 w w' := by
 obtain ⟨hd, _⟩ := M.easter_spec y h0 h1
 subst em ed
 have h := R.Of y (M.eT y / 31) (M.eT y % 31 + 1)
 rw [if_pos hd] at h
 obtain ⟨k, hk⟩ := h.rounds
 exact Q.tenorref5_Of.calls k y _ _ _ _ w hk
set_option maxHeartbeats 1000000 in
set_option maxRecDepth 100000 in
theorem easter5_yes (y : Int) (h0 : 1900 ≤ y) (h1 : y ≤ 2199) (w : World) :
  Calls Try.prog 134 #[.int .i64 y] w fun e w' => e = .returned (.tuple #[.int .i64 (M.easterDay y), .int .i64 0]) ∧ Drawn0 w w' := by
 have g0 : ¬ y < 1900 := by omega
 have g1 : ¬ 2199 < y := by omega
 go_enter Try.func134, Try.ntmps134
 go_wp2_with fail
 refine (easter_of y _ _ h0 h1 ?_ ?_ _).mono ?_
 ·
  simp only [M.eT, m4]
 ·
  simp only [M.eT, m4]
 rintro e w' ⟨rfl, ⟨n2, rfl⟩⟩
 go_wp2_with fail
 go_ret2
 exact ⟨rfl, by repeat (first | exact Drawn0.refl _ | apply Drawn0.step)⟩
theorem easter5_no (y : Int) (h : ¬ (1900 ≤ y ∧ y ≤ 2199)) (w : World) :
  Calls Try.prog 134 #[.int .i64 y] w fun e w' => e = .returned (.tuple #[.int .i64 0, .int .i64 50]) ∧ Drawn0 w w' := by
 by_cases h1 : y < 1900
 ·
  clear h
  go_enter Try.func134, Try.ntmps134
  go_wp2_with fail
  go_ret2
  exact ⟨rfl, by repeat (first | exact Drawn0.refl _ | apply Drawn0.step)⟩
 ·
  have h2 : 2199 < y := by omega
  clear h
  go_enter Try.func134, Try.ntmps134
  go_wp2_with fail
  go_ret2
  exact ⟨rfl, by repeat (first | exact Drawn0.refl _ | apply Drawn0.step)⟩
theorem easter5_calls (y : Int) (w : World) : Calls Try.prog 134 #[.int .i64 y] w fun e w' => e = .returned (.tuple #[.int .i64 (easterF y).1, .int .i64 (easterF y).2]) ∧ Drawn0 w w' := by
 unfold easterF
 by_cases h : 1900 ≤ y ∧ y ≤ 2199
 ·
  rw [if_pos h]; exact easter5_yes y h.1 h.2 w
 ·
  rw [if_neg h]; exact easter5_no y h w
end Go.Proofs.Ytoncignjcgjhhaa.H
namespace Go.Proofs.Ytoncignjcgjhhaa.Q
open Go.RowKit Go.Proofs.YtoncignjcgjhhaaW.PrintWords Go.Proofs.YtoncignjcgjhhaaW.PrintLast Go.Proofs.YtoncignjcgjhhaaW.PrintMore
attribute [local go_sem] max2_int min2_int max_two min_two max_three min_three max_four min_four   -- for this text's walks alone
def tenorref5_Easter.f (a0 : Int) : Option (Int × Int) := some (Go.Proofs.Ytoncignjcgjhhaa.H.easterF a0)
theorem tenorref5_Easter.calls (a0 r1 r2 : Int) (w : World) (h : tenorref5_Easter.f a0 = some (r1, r2)) :
  Calls Try.prog 134 #[.int .i64 a0] w fun e w' => e = .returned (.tuple #[.int .i64 r1, .int .i64 r2]) ∧ Drawn0 w w' := by
 have e := Option.some.inj h;have c := Go.Proofs.Ytoncignjcgjhhaa.H.easter5_calls a0 w
 rw [e] at c
 exact c
end Go.Proofs.Ytoncignjcgjhhaa.Q
namespace Go.Proofs.Ytoncignjcgjhhaa.Q
open Go.RowKit Go.Proofs.YtoncignjcgjhhaaW.PrintWords Go.Proofs.YtoncignjcgjhhaaW.PrintLast Go.Proofs.YtoncignjcgjhhaaW.PrintMore
attribute [local go_sem] max2_int min2_int max_two min_two max_three min_three max_four min_four   -- for this text's walks alone
def tenorref6_off.f (a0_0 : Int) (l0_1 : List (S63)) (a1 : Int) : Option (Bool) := if 0 ≤ (Int.tmod (wrap64 ((Int.tmod a1 7) + 7)) 7) then (some ((Go.bits .and .i64 (shr .i64 a0_0 (Int.tmod (wrap64 ((Int.tmod a1 7) + 7)) 7)) 1) == 1)) else (none)
set_option maxHeartbeats 8000000 in
set_option maxRecDepth 100000 in
theorem tenorref6_off.calls (a0_0 : Int) (A0_1 : Option Addr) (c0_1 : Nat) (l0_1 : List (S63)) (a1 : Int) (r : Bool) (w : World) (hr0_1 : Kd.C k63 w A0_1 l0_1.length l0_1) (hc0_1 : l0_1.length ≤ c0_1) (h : tenorref6_off.f a0_0 l0_1 a1 = some r) :
  Calls Try.prog 108 #[.agg #[.int .i64 a0_0, .slice A0_1 l0_1.length c0_1], .int .i64 a1] w fun e w' => e = .returned (.bool r) ∧ Below w.heap.size w w' := by
 have hu24 := Try.underlying24;have HR0_1 := Aside0.mk hr0_1;have HC0_1 := Aside0.mk hc0_1;clear hr0_1 hc0_1
 have HB := Aside0.mk (Below.refl w.heap.size w)
 have H : (if 0 ≤ (Int.tmod (wrap64 ((Int.tmod a1 7) + 7)) 7) then (some ((Go.bits .and .i64 (shr .i64 a0_0 (Int.tmod (wrap64 ((Int.tmod a1 7) + 7)) 7)) 1) == 1)) else (none)) = some r := h
 clear h
 obtain ⟨ji3, hji3⟩ : ∃ j_ : Int, (Int.tmod (wrap64 ((Int.tmod a1 7) + 7)) 7) = j_ := ⟨_, rfl⟩
 replace H : (if 0 ≤ (ji3) then (some ((Go.bits .and .i64 (shr .i64 a0_0 (ji3)) 1) == 1)) else (none)) = some r := by first | (rw [hji3] at H; exact H) | (simp only [hji3] at H ⊢; exact H)
 by_cases c4 : 0 ≤ (ji3)
 ·
  rw [if_pos c4] at H
  have c4b0 := eq_true c4
  have c4b1 : decide (0 ≤ (ji3)) = true := decide_eq_true c4
  clear c4
  obtain ⟨ji5, hji5⟩ : ∃ j_ : Int, (shr .i64 a0_0 (ji3)) = j_ := ⟨_, rfl⟩
  replace H : (some ((Go.bits .and .i64 (ji5) 1) == 1)) = some r := by first | (rw [hji5] at H; exact H) | (simp only [hji5] at H ⊢; exact H)
  have hji5_ : (a0_0 / 2 ^ min (ji3).toNat 64) = ji5 := hji5
  have hji5z : (ji3) ≤ 64 → (a0_0 / 2 ^ (ji3).toNat) = ji5 := shr_small hji5
  obtain rfl := Option.some.inj H
  go_enter Try.func108, Try.ntmps108
  go_wp2_with (first | ((with_reducible refine gate_dst (N := 2) rfl ?_); refine box_event ?hg (N := 2) ?hd (cs := #[.int .i64 a0_0, .slice A0_1 l0_1.length c0_1]) (t := 24) ?hr ?_; (case hd => rfl); (case hg => rfl); (case hr => first | (go_simp; done) | (go_simp; rfl)); intro gb203 hg w6 hbox hb; have BK203 := Aside0.mk (hbox); have GW203 := bG hg; have GE203 := bG hg; replace HB := bS hb; clear hb hbox hg; obtain ⟨_,_,_,_⟩ := blk2 BK203))
  go_ret
  exact ⟨by first | rfl | (simp [errW_none, errW_some] <;> rfl) | (simp only [← hji3, ← hji5]; first | rfl | (simp [errW_none, errW_some] <;> rfl)) | (simp [*, errW_none, errW_some] <;> rfl), bB⟩
 ·
  rw [if_neg c4] at H
  exact absurd H (by simp)
mutual
def tenorref6_moved.j0 : Nat → Int → Int → Bool → Int → List (S63) → Option (Int)
  | 0, _, _, _, _, _ => none
  | k + 1, x1, x2, x16, x205000, x205001 => if x16 = true then (some x1) else (tenorref6_moved.l0 k x1 x2 x1 x205000 x205001)
def tenorref6_moved.l0 : Nat → Int → Int → Int → Int → List (S63) → Option (Int)
  | 0, _, _, _, _, _ => none
  | k + 1, x1, x2, x7, x205000, x205001 => (tenorref6_off.f x205000 x205001 x7).bind fun t206 => (if t206 = true then (tenorref6_moved.l0 k x1 x2 (wrap64 (x7 + 1)) x205000 x205001) else (tenorref6_moved.l1 k x1 x2 x7 x1 x205000 x205001))
def tenorref6_moved.l1 : Nat → Int → Int → Int → Int → Int → List (S63) → Option (Int)
  | 0, _, _, _, _, _, _ => none
  | k + 1, x1, x2, x7, x8, x205000, x205001 => (tenorref6_off.f x205000 x205001 x8).bind fun t207 => (if t207 = true then (tenorref6_moved.l1 k x1 x2 x7 (wrap64 (x8 - 1)) x205000 x205001) else (if x2 = 2 then (if (wrap64 (x1 - x8)) < (wrap64 (x7 - x1)) then (some x8) else (some x7)) else (some x7)))
end
def tenorref6_moved.f (k : Nat) (a0_0 : Int) (l0_1 : List (S63)) (a1 a2 : Int) : Option (Int) := if a2 = 0 then (tenorref6_moved.j0 k a1 a2 true a0_0 l0_1) else ((tenorref6_off.f a0_0 l0_1 a1).bind fun t205 => (tenorref6_moved.j0 k a1 a2 (!t205) a0_0 l0_1))
set_option maxHeartbeats 8000000 in
set_option maxRecDepth 100000 in
theorem tenorref6_moved.calls (k : Nat) (a0_0 : Int) (A0_1 : Option Addr) (c0_1 : Nat) (l0_1 : List (S63)) (a1 a2 r : Int) (w : World) (hr0_1 : Kd.C k63 w A0_1 l0_1.length l0_1) (hc0_1 : l0_1.length ≤ c0_1) (h : tenorref6_moved.f k a0_0 l0_1 a1 a2 = some r) :
  Calls Try.prog 135 #[.agg #[.int .i64 a0_0, .slice A0_1 l0_1.length c0_1], .int .i64 a1, .int .i64 a2] w fun e w' => e = .returned (.int .i64 r) ∧ Below w.heap.size w w' := by
 have hu24 := Try.underlying24;have HR0_1 := Aside0.mk hr0_1;have HC0_1 := Aside0.mk hc0_1;clear hr0_1 hc0_1
 have HB := Aside0.mk (Below.refl w.heap.size w)
 have H : (if a2 = 0 then (tenorref6_moved.j0 k a1 a2 true a0_0 l0_1) else ((tenorref6_off.f a0_0 l0_1 a1).bind fun t205 => (tenorref6_moved.j0 k a1 a2 (!t205) a0_0 l0_1))) = some r := h
 clear h;have HC4 := Aside0.mk H;clear H
 go_enter Try.func135, Try.ntmps135
 go_upto_region 1 with (first | ((with_reducible refine gate_dst (N := 3) rfl ?_); refine box_event ?hg (N := 3) ?hd (cs := #[.int .i64 a0_0, .slice A0_1 l0_1.length c0_1]) (t := 24) ?hr ?_; (case hd => rfl); (case hg => rfl); (case hr => first | (go_simp; done) | (go_simp; rfl)); intro gb204 hg w5 hbox hb; have BK204 := Aside0.mk (hbox); have GW204 := bG hg; have GE204 := bG hg; replace HB := bS hb; clear hb hbox hg))
 (try simp only [Act.put, List.setIfInBounds_toArray, List.set_cons_zero, List.set_cons_succ])
 go_cut [16] (fun v16 wc => ∃ (kq : Nat) (x16_3 : Bool), v16 = .bool x16_3 ∧ Aside0 (tenorref6_moved.j0 kq a1 a2 x16_3 a0_0 l0_1 = some r) ∧ Aside0 (kq ≤ k) ∧ Aside0 (wc.heap[gb204]? = some (.cells #[.int .i64 a0_0, (.slice A0_1 l0_1.length c0_1)] 24 (0, 0))) ∧ Aside0 (Below w.heap.size w wc))
 case first =>
  have H := HC4.out;clear HC4
  by_cases c6 : a2 = 0
  ·
   rw [if_pos c6] at H
   have c6b0 : (a2 == 0) = true := beq_iff_eq.mpr c6
   have c6b1 : (a2 != 0) = false := bne_eq_false_iff_eq.mpr c6
   clear c6
   (first | rw [c6b0] | (simp only [i64_w, i32_w]; rw [c6b0]) | skip)
   have H' := Aside0.mk H;clear H
   go_wp2
   go_meet
   case rel => exact ⟨_, (true), eS, H', ⟨eN⟩, ⟨(bk BK204)⟩, ⟨bB⟩⟩
  ·
   rw [if_neg c6] at H
   have c6b0 : (a2 == 0) = false := beq_eq_false_iff_ne.mpr c6
   have c6b1 : (a2 != 0) = true := bne_iff_ne.mpr c6
   (first | rw [c6b0] | (simp only [i64_w, i32_w]; rw [c6b0]) | skip)
   replace H := Option.bind_eq_some_iff.mp H
   obtain ⟨t205, A70, H⟩ := H
   replace H : (tenorref6_moved.j0 k a1 a2 (!t205) a0_0 l0_1) = some r := H
   have A7 := Aside0.mk A70;clear A70;have H' := Aside0.mk H;clear H
   obtain ⟨_,_,_,_⟩ := blk2 BK204
   go_wp2_with (first | (go_at_call 108; (with_reducible refine (tenorref6_off.calls a0_0 _ _ l0_1 a1 t205 _ ?side1 ?side2 A7.out).mono ?_); (case side1 => exact sC HR0_1); (case side2 => exact HC0_1.out); rintro e w9 ⟨rfl, hb⟩; replace BK204 := bK BK204 hb; replace HB := bS hb; (try clear hb); (try clear hb2); (try clear hk); (try clear hi)))
   go_meet
   case rel => exact ⟨_, (!t205), eS, H', ⟨eN⟩, ⟨(bk BK204)⟩, ⟨bB⟩⟩
 case rest =>
  clear HC4
  obtain ⟨kq, x16_3, rfl, HA, HJ3, BK204, HB⟩ := hcut
  cases kq with
  | zero => exact absurd HA.out (by simp [tenorref6_moved.j0])
  | succ kj3 =>
   have H := HA.out;clear HA
   simp only [tenorref6_moved.j0] at H
   by_cases c10 : x16_3 = true
   ·
    subst c10
    have H1 : (some a1) = some r := by rw [if_pos rfl] at H; exact H
    clear H;have H := H1;clear H1
    obtain rfl := Option.some.inj H
    go_wp2
    go_ret
    exact ⟨eW, bB⟩
   ·
    replace c10 := Bool.eq_false_iff.mpr c10;subst c10
    have H1 : (tenorref6_moved.l0 kj3 a1 a2 a1 a0_0 l0_1) = some r := by rw [if_neg (show ¬ (false = true) by decide)] at H; exact H
    clear H;have H := H1;clear H1;have H' := Aside0.mk H;clear H
    go_wp2
    go_loopg [7] kj3 (fun kq v7 w' => ∃ (x7_2 : Int), v7 = .int .i64 x7_2 ∧ Aside0 (tenorref6_moved.l0 kq a1 a2 x7_2 a0_0 l0_1 = some r) ∧ Aside0 (kq ≤ kj3) ∧ Aside0 (w'.heap[gb204]? = some (.cells #[.int .i64 a0_0, (.slice A0_1 l0_1.length c0_1)] 24 (0, 0))) ∧ Aside0 (Below w.heap.size w w'))
    case atStart => exact ⟨(a1), eS, H', ⟨Nat.le_refl _⟩, ⟨(bk BK204)⟩, ⟨bB⟩⟩
    case round =>
     clear H'
     obtain ⟨x7_2, rfl, HA, HK2, BK204, HB⟩ := hrel
     cases gk with
     | zero => exact absurd HA.out (by simp [tenorref6_moved.l0])
     | succ k2 =>
      have H := HA.out;clear HA
      simp only [tenorref6_moved.l0] at H
      replace H := Option.bind_eq_some_iff.mp H
      obtain ⟨t206, A110, H⟩ := H
      replace H : (if t206 = true then (tenorref6_moved.l0 k2 a1 a2 (wrap64 (x7_2 + 1)) a0_0 l0_1) else (tenorref6_moved.l1 k2 a1 a2 x7_2 a1 a0_0 l0_1)) = some r := H
      have A11 := Aside0.mk A110;clear A110
      by_cases c12 : t206 = true
      ·
       subst c12
       have H1 : (tenorref6_moved.l0 k2 a1 a2 (wrap64 (x7_2 + 1)) a0_0 l0_1) = some r := by rw [if_pos rfl] at H; exact H
       clear H;have H := H1;clear H1;have H' := Aside0.mk H;clear H
       obtain ⟨_,_,_,_⟩ := blk2 BK204
       go_wp2_with (first | ((with_reducible refine gG 108 ?_); refine goA (some 21) Try.func108 #[.agg #[.int .i64 a0_0, .slice A0_1 l0_1.length c0_1], .int .i64 x7_2] ?_; (with_reducible refine (tenorref6_off.calls a0_0 _ _ l0_1 x7_2 true _ ?side1 ?side2 A11.out).mono ?_); (case side1 => exact sC HR0_1); (case side2 => exact HC0_1.out); rintro e w14 ⟨rfl, hb⟩; refine ⟨_, rfl, ?_⟩; replace BK204 := bK BK204 hb; replace HB := bS hb; (try clear hb); (try clear hb2); (try clear hk); (try clear hi)))
       go_roundg k2
       case measure => have := HJ3.out; have := HK2.out; omega
       case rel => exact ⟨(wrap64 (x7_2 + 1)), eS, H', ⟨by have := HJ3.out; have := HK2.out; omega⟩, ⟨(bk BK204)⟩, ⟨bB⟩⟩
      ·
       replace c12 := Bool.eq_false_iff.mpr c12;subst c12
       have H1 : (tenorref6_moved.l1 k2 a1 a2 x7_2 a1 a0_0 l0_1) = some r := by rw [if_neg (show ¬ (false = true) by decide)] at H; exact H
       clear H;have H := H1;clear H1;have H' := Aside0.mk H;clear H
       obtain ⟨_,_,_,_⟩ := blk2 BK204
       go_wp2_with (first | ((with_reducible refine gG 108 ?_); refine goA (some 21) Try.func108 #[.agg #[.int .i64 a0_0, .slice A0_1 l0_1.length c0_1], .int .i64 x7_2] ?_; (with_reducible refine (tenorref6_off.calls a0_0 _ _ l0_1 x7_2 false _ ?side1 ?side2 A11.out).mono ?_); (case side1 => exact sC HR0_1); (case side2 => exact HC0_1.out); rintro e w16 ⟨rfl, hb⟩; refine ⟨_, rfl, ?_⟩; replace BK204 := bK BK204 hb; replace HB := bS hb; (try clear hb); (try clear hb2); (try clear hk); (try clear hi)))
       go_loopg [8] k2 (fun kq v8 w' => ∃ (x8_3 : Int), v8 = .int .i64 x8_3 ∧ Aside0 (tenorref6_moved.l1 kq a1 a2 x7_2 x8_3 a0_0 l0_1 = some r) ∧ Aside0 (kq ≤ k2) ∧ Aside0 (w'.heap[gb204]? = some (.cells #[.int .i64 a0_0, (.slice A0_1 l0_1.length c0_1)] 24 (0, 0))) ∧ Aside0 (Below w.heap.size w w'))
       case atStart => exact ⟨(a1), eS, H', ⟨Nat.le_refl _⟩, ⟨(bk BK204)⟩, ⟨bB⟩⟩
       case round =>
        clear H'
        obtain ⟨x8_3, rfl, HA, HK3, BK204, HB⟩ := hrel
        cases gk with
        | zero => exact absurd HA.out (by simp [tenorref6_moved.l1])
        | succ k3 =>
         have H := HA.out;clear HA
         simp only [tenorref6_moved.l1] at H
         replace H := Option.bind_eq_some_iff.mp H
         obtain ⟨t207, A170, H⟩ := H
         replace H : (if t207 = true then (tenorref6_moved.l1 k3 a1 a2 x7_2 (wrap64 (x8_3 - 1)) a0_0 l0_1) else (if a2 = 2 then (if (wrap64 (a1 - x8_3)) < (wrap64 (x7_2 - a1)) then (some x8_3) else (some x7_2)) else (some x7_2))) = some r := H
         have A17 := Aside0.mk A170;clear A170
         by_cases c18 : t207 = true
         ·
          subst c18
          have H1 : (tenorref6_moved.l1 k3 a1 a2 x7_2 (wrap64 (x8_3 - 1)) a0_0 l0_1) = some r := by rw [if_pos rfl] at H; exact H
          clear H;have H := H1;clear H1;have H' := Aside0.mk H;clear H
          obtain ⟨_,_,_,_⟩ := blk2 BK204
          go_wp2_with (first | ((with_reducible refine gG 108 ?_); refine goA (some 27) Try.func108 #[.agg #[.int .i64 a0_0, .slice A0_1 l0_1.length c0_1], .int .i64 x8_3] ?_; (with_reducible refine (tenorref6_off.calls a0_0 _ _ l0_1 x8_3 true _ ?side1 ?side2 A17.out).mono ?_); (case side1 => exact sC HR0_1); (case side2 => exact HC0_1.out); rintro e w20 ⟨rfl, hb⟩; refine ⟨_, rfl, ?_⟩; replace BK204 := bK BK204 hb; replace HB := bS hb; (try clear hb); (try clear hb2); (try clear hk); (try clear hi)))
          go_roundg k3
          case measure => have := HJ3.out; have := HK2.out; have := HK3.out; omega
          case rel => exact ⟨(wrap64 (x8_3 - 1)), eS, H', ⟨by have := HJ3.out; have := HK2.out; have := HK3.out; omega⟩, ⟨(bk BK204)⟩, ⟨bB⟩⟩
         ·
          replace c18 := Bool.eq_false_iff.mpr c18;subst c18
          have H1 : (if a2 = 2 then (if (wrap64 (a1 - x8_3)) < (wrap64 (x7_2 - a1)) then (some x8_3) else (some x7_2)) else (some x7_2)) = some r := by rw [if_neg (show ¬ (false = true) by decide)] at H; exact H
          clear H;have H := H1;clear H1
          by_cases c21 : a2 = 2
          ·
           rw [if_pos c21] at H
           have c21b0 : (a2 == 2) = true := beq_iff_eq.mpr c21
           have c21b1 : (a2 != 2) = false := bne_eq_false_iff_eq.mpr c21
           clear c21
           by_cases c22 : (wrap64 (a1 - x8_3)) < (wrap64 (x7_2 - a1))
           ·
            rw [if_pos c22] at H
            have c22b0 : decide ((wrap64 (a1 - x8_3)) < (wrap64 (x7_2 - a1))) = true := decide_eq_true c22
            clear c22
            obtain rfl := Option.some.inj H
            obtain ⟨_,_,_,_⟩ := blk2 BK204
            go_wp2_with (first | ((with_reducible refine gG 108 ?_); refine goA (some 27) Try.func108 #[.agg #[.int .i64 a0_0, .slice A0_1 l0_1.length c0_1], .int .i64 x8_3] ?_; (with_reducible refine (tenorref6_off.calls a0_0 _ _ l0_1 x8_3 false _ ?side1 ?side2 A17.out).mono ?_); (case side1 => exact sC HR0_1); (case side2 => exact HC0_1.out); rintro e w24 ⟨rfl, hb⟩; refine ⟨_, rfl, ?_⟩; replace BK204 := bK BK204 hb; replace HB := bS hb; (try clear hb); (try clear hb2); (try clear hk); (try clear hi)))
            go_ret
            exact ⟨eW, bB⟩
           ·
            rw [if_neg c22] at H
            have c22b0 : decide ((wrap64 (a1 - x8_3)) < (wrap64 (x7_2 - a1))) = false := decide_eq_false c22
            clear c22
            obtain rfl := Option.some.inj H
            obtain ⟨_,_,_,_⟩ := blk2 BK204
            go_wp2_with (first | ((with_reducible refine gG 108 ?_); refine goA (some 27) Try.func108 #[.agg #[.int .i64 a0_0, .slice A0_1 l0_1.length c0_1], .int .i64 x8_3] ?_; (with_reducible refine (tenorref6_off.calls a0_0 _ _ l0_1 x8_3 false _ ?side1 ?side2 A17.out).mono ?_); (case side1 => exact sC HR0_1); (case side2 => exact HC0_1.out); rintro e w26 ⟨rfl, hb⟩; refine ⟨_, rfl, ?_⟩; replace BK204 := bK BK204 hb; replace HB := bS hb; (try clear hb); (try clear hb2); (try clear hk); (try clear hi)))
            go_ret
            exact ⟨eW, bB⟩
          ·
           rw [if_neg c21] at H
           have c21b0 : (a2 == 2) = false := beq_eq_false_iff_ne.mpr c21
           have c21b1 : (a2 != 2) = true := bne_iff_ne.mpr c21
           obtain rfl := Option.some.inj H
           obtain ⟨_,_,_,_⟩ := blk2 BK204
           go_wp2_with (first | ((with_reducible refine gG 108 ?_); refine goA (some 27) Try.func108 #[.agg #[.int .i64 a0_0, .slice A0_1 l0_1.length c0_1], .int .i64 x8_3] ?_; (with_reducible refine (tenorref6_off.calls a0_0 _ _ l0_1 x8_3 false _ ?side1 ?side2 A17.out).mono ?_); (case side1 => exact sC HR0_1); (case side2 => exact HC0_1.out); rintro e w28 ⟨rfl, hb⟩; refine ⟨_, rfl, ?_⟩; replace BK204 := bK BK204 hb; replace HB := bS hb; (try clear hb); (try clear hb2); (try clear hk); (try clear hi)))
           go_ret
           exact ⟨eW, bB⟩
end Go.Proofs.Ytoncignjcgjhhaa.Q
