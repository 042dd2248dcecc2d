/- Contracts and facts of functions of the program (calendar, dates and their documents), joined in one text by a program of this session. No condition but what each theorem states. -/
import Derived.Test.YtoncignjcgjhhaaLGA
import Derived.Test.YtoncignjcgjhhaaLGI
import Derived.Test.YtoncignjcgjhhaaLGJ
import Derived.Test.YtoncignjcgjhhaaLGE
set_option linter.unusedVariables false
set_option linter.unusedSimpArgs false
namespace Go.Proofs.Ytoncignjcgjhhaa.Q
open Go.RowKit Go.Proofs.YtoncignjcgjhhaaW.PrintWords Go.Proofs.YtoncignjcgjhhaaW.PrintLast Go.Proofs.YtoncignjcgjhhaaW.PrintMore
attribute [local go_sem] max2_int min2_int max_two min_two max_three min_three max_four min_four   -- for this text's walks alone
mutual
def tenorref8_Check.j0 : Nat → Bool → Int → Int → Int → Int → Int → Int → Int → Int → Int → List (S63) → Option (Int)
  | 0, _, _, _, _, _, _, _, _, _, _, _ => none
  | k + 1, x14, x765000, x765001, x765002, x765003, x765004, x765005, x765006, x765007, x765008, x765009 => if x14 = true then (some 51) else (if x765000 ≥ x765001 then (tenorref8_Check.j1 k true x765000 x765001 x765002 x765003 x765004 x765005 x765006 x765007 x765008 x765009) else ((tenorref8_in.f x765002 1 1200).bind fun t767 => (if t767 = true then ((tenorref8_in.f x765003 1 4).bind fun t768 => (if t768 = true then ((tenorref8_in.f x765004 1 4).bind fun t769 => (if t769 = true then ((tenorref8_in.f x765005 0 2).bind fun t770 => (tenorref8_Check.j1 k (!t770) x765000 x765001 x765002 x765003 x765004 x765005 x765006 x765007 x765008 x765009)) else (tenorref8_Check.j1 k true x765000 x765001 x765002 x765003 x765004 x765005 x765006 x765007 x765008 x765009))) else (tenorref8_Check.j1 k true x765000 x765001 x765002 x765003 x765004 x765005 x765006 x765007 x765008 x765009))) else (tenorref8_Check.j1 k true x765000 x765001 x765002 x765003 x765004 x765005 x765006 x765007 x765008 x765009))))
def tenorref8_Check.j1 : Nat → Bool → Int → Int → Int → Int → Int → Int → Int → Int → Int → List (S63) → Option (Int)
  | 0, _, _, _, _, _, _, _, _, _, _, _ => none
  | k + 1, x43, x765000, x765001, x765002, x765003, x765004, x765005, x765006, x765007, x765008, x765009 => if x43 = true then (some 80) else (if x765005 = 0 then ((tenorref8_in.f x765006 0 4).bind fun t771 => (if t771 = true then ((tenorref8_in.f x765007 0 30).bind fun t772 => (if t772 = true then ((tenorref6_Check.f k x765008 x765009).bind fun bt773 => (some bt773.1)) else (some 80))) else (some 80))) else (if x765003 < 3 then (some 80) else ((tenorref8_in.f x765006 0 4).bind fun t775 => (if t775 = true then ((tenorref8_in.f x765007 0 30).bind fun t776 => (if t776 = true then ((tenorref6_Check.f k x765008 x765009).bind fun bt777 => (some bt777.1)) else (some 80))) else (some 80)))))
end
def tenorref8_Check.f (k : Nat) (a0_0 a0_1 a0_2 a0_3 a0_4 a0_5 a0_6 a0_7 a0_8 : Int) (l0_9 : List (S63)) : Option (Int) := (tenorref8_in.f a0_0 0 109572).bind fun t765 => (if t765 = true then ((tenorref8_in.f a0_1 0 109572).bind fun t766 => (tenorref8_Check.j0 k (!t766) a0_0 a0_1 a0_2 a0_3 a0_4 a0_5 a0_6 a0_7 a0_8 l0_9)) else (tenorref8_Check.j0 k true a0_0 a0_1 a0_2 a0_3 a0_4 a0_5 a0_6 a0_7 a0_8 l0_9))
set_option maxHeartbeats 8000000 in
set_option maxRecDepth 100000 in
theorem tenorref8_Check.calls (k : Nat) (a0_0 a0_1 a0_2 a0_3 a0_4 a0_5 a0_6 a0_7 a0_8 : Int) (A0_9 : Option Addr) (c0_9 : Nat) (l0_9 : List (S63)) (r : Int) (w : World) (hr0_9 : Kd.C k63 w A0_9 l0_9.length l0_9) (hc0_9 : l0_9.length ≤ c0_9) (h : tenorref8_Check.f k a0_0 a0_1 a0_2 a0_3 a0_4 a0_5 a0_6 a0_7 a0_8 l0_9 = some r) :
  Calls Try.prog 58 #[.agg #[.int .i64 a0_0, .int .i64 a0_1, .int .i64 a0_2, .int .i64 a0_3, .int .i64 a0_4, .int .i64 a0_5, .int .i64 a0_6, .int .i64 a0_7, .int .i64 a0_8, .slice A0_9 l0_9.length c0_9]] w fun e w' => e = .returned (.int .i64 r) ∧ Below w.heap.size w w' := by
 have hu66 := Try.underlying66;have hu24 := Try.underlying24;have HR0_9 := Aside0.mk hr0_9;have HC0_9 := Aside0.mk hc0_9;clear hr0_9 hc0_9
 have HB := Aside0.mk (Below.refl w.heap.size w)
 have H : ((tenorref8_in.f a0_0 0 109572).bind fun t765 => (if t765 = true then ((tenorref8_in.f a0_1 0 109572).bind fun t766 => (tenorref8_Check.j0 k (!t766) a0_0 a0_1 a0_2 a0_3 a0_4 a0_5 a0_6 a0_7 a0_8 l0_9)) else (tenorref8_Check.j0 k true a0_0 a0_1 a0_2 a0_3 a0_4 a0_5 a0_6 a0_7 a0_8 l0_9))) = some r := h
 clear h;have HC2 := Aside0.mk H;clear H
 go_enter Try.func58, Try.ntmps58
 go_upto_region 1 with (first | ((with_reducible refine gate_dst (N := 1) rfl ?_); refine box_event ?hg (N := 1) ?hd (cs := #[.int .i64 a0_0, .int .i64 a0_1, .int .i64 a0_2, .int .i64 a0_3, .int .i64 a0_4, .int .i64 a0_5, .int .i64 a0_6, .int .i64 a0_7, .int .i64 a0_8, .slice A0_9 l0_9.length c0_9]) (t := 66) ?hr ?_; (case hd => rfl); (case hg => rfl); (case hr => first | (go_simp; done) | (go_simp; rfl)); intro gb764 hg w3 hbox hb; have BK764 := Aside0.mk (hbox); have GW764 := bG hg; have GE764 := bG hg; replace HB := bS hb; clear hb hbox hg))
 (try simp only [Act.put, List.setIfInBounds_toArray, List.set_cons_zero, List.set_cons_succ])
 go_cut [14] (fun v14 wc => ∃ (kq : Nat) (x14_1 : Bool), v14 = .bool x14_1 ∧ Aside0 (tenorref8_Check.j0 kq x14_1 a0_0 a0_1 a0_2 a0_3 a0_4 a0_5 a0_6 a0_7 a0_8 l0_9 = some r) ∧ Aside0 (kq ≤ k) ∧ Aside0 (wc.heap[gb764]? = some (.cells #[.int .i64 a0_0, .int .i64 a0_1, .int .i64 a0_2, .int .i64 a0_3, .int .i64 a0_4, .int .i64 a0_5, .int .i64 a0_6, .int .i64 a0_7, .int .i64 a0_8, (.slice A0_9 l0_9.length c0_9)] 66 (0, 0))) ∧ Aside0 (Below w.heap.size w wc))
 case first =>
  have H := HC2.out;clear HC2;replace H := Option.bind_eq_some_iff.mp H
  obtain ⟨t765, A40, H⟩ := H
  replace H : (if t765 = true then ((tenorref8_in.f a0_1 0 109572).bind fun t766 => (tenorref8_Check.j0 k (!t766) a0_0 a0_1 a0_2 a0_3 a0_4 a0_5 a0_6 a0_7 a0_8 l0_9)) else (tenorref8_Check.j0 k true a0_0 a0_1 a0_2 a0_3 a0_4 a0_5 a0_6 a0_7 a0_8 l0_9)) = some r := H
  have A4 := Aside0.mk A40;clear A40
  by_cases c5 : t765 = true
  ·
   subst c5
   have H1 : ((tenorref8_in.f a0_1 0 109572).bind fun t766 => (tenorref8_Check.j0 k (!t766) a0_0 a0_1 a0_2 a0_3 a0_4 a0_5 a0_6 a0_7 a0_8 l0_9)) = some r := by rw [if_pos rfl] at H; exact H
   clear H;have H := H1;clear H1;replace H := Option.bind_eq_some_iff.mp H
   obtain ⟨t766, A60, H⟩ := H
   replace H : (tenorref8_Check.j0 k (!t766) a0_0 a0_1 a0_2 a0_3 a0_4 a0_5 a0_6 a0_7 a0_8 l0_9) = some r := H
   have A6 := Aside0.mk A60;clear A60;have H' := Aside0.mk H;clear H
   obtain ⟨_,_,_,_,_,_,_,_,_,_,_,_,_,_,_,_,_,_,_,_⟩ := blk10 BK764
   go_wp2_with (first | ((with_reducible refine gG 92 ?_); refine goA (some 7) Try.func92 #[.int .i64 a0_0, .int .i64 0, .int .i64 109572] ?_; (with_reducible refine (tenorref8_in.calls a0_0 0 109572 true _ A4.out).mono ?_); rintro e w' ⟨rfl, ⟨nd, rfl⟩⟩; refine ⟨_, rfl, ?_⟩) | (go_at_call 92; (with_reducible refine (tenorref8_in.calls a0_1 0 109572 t766 _ A6.out).mono ?_); rintro e w' ⟨rfl, ⟨nd, rfl⟩⟩))
   go_meet
   case rel => exact ⟨_, (!t766), eS, H', ⟨eN⟩, ⟨(bk BK764)⟩, ⟨bB⟩⟩
  ·
   replace c5 := Bool.eq_false_iff.mpr c5;subst c5
   have H1 : (tenorref8_Check.j0 k true a0_0 a0_1 a0_2 a0_3 a0_4 a0_5 a0_6 a0_7 a0_8 l0_9) = some r := by rw [if_neg (show ¬ (false = true) by decide)] at H; exact H
   clear H;have H := H1;clear H1;have H' := Aside0.mk H;clear H
   obtain ⟨_,_,_,_,_,_,_,_,_,_,_,_,_,_,_,_,_,_,_,_⟩ := blk10 BK764
   go_wp2_with (first | ((with_reducible refine gG 92 ?_); refine goA (some 7) Try.func92 #[.int .i64 a0_0, .int .i64 0, .int .i64 109572] ?_; (with_reducible refine (tenorref8_in.calls a0_0 0 109572 false _ A4.out).mono ?_); rintro e w' ⟨rfl, ⟨nd, rfl⟩⟩; refine ⟨_, rfl, ?_⟩))
   go_meet
   case rel => exact ⟨_, (true), eS, H', ⟨eN⟩, ⟨(bk BK764)⟩, ⟨bB⟩⟩
 case rest =>
  clear HC2
  obtain ⟨kq, x14_1, rfl, HA, HJ1, BK764, HB⟩ := hcut
  cases kq with
  | zero => exact absurd HA.out (by simp [tenorref8_Check.j0])
  | succ kj1 =>
   have H := HA.out;clear HA
   simp only [tenorref8_Check.j0] at H
   by_cases c9 : x14_1 = true
   ·
    subst c9
    have H1 : (some 51) = some r := by rw [if_pos rfl] at H; exact H
    clear H;have H := H1;clear H1
    obtain rfl := Option.some.inj H
    go_wp2
    go_ret
    exact ⟨eW, bB⟩
   ·
    replace c9 := Bool.eq_false_iff.mpr c9;subst c9
    have H1 : (if a0_0 ≥ a0_1 then (tenorref8_Check.j1 kj1 true a0_0 a0_1 a0_2 a0_3 a0_4 a0_5 a0_6 a0_7 a0_8 l0_9) else ((tenorref8_in.f a0_2 1 1200).bind fun t767 => (if t767 = true then ((tenorref8_in.f a0_3 1 4).bind fun t768 => (if t768 = true then ((tenorref8_in.f a0_4 1 4).bind fun t769 => (if t769 = true then ((tenorref8_in.f a0_5 0 2).bind fun t770 => (tenorref8_Check.j1 kj1 (!t770) a0_0 a0_1 a0_2 a0_3 a0_4 a0_5 a0_6 a0_7 a0_8 l0_9)) else (tenorref8_Check.j1 kj1 true a0_0 a0_1 a0_2 a0_3 a0_4 a0_5 a0_6 a0_7 a0_8 l0_9))) else (tenorref8_Check.j1 kj1 true a0_0 a0_1 a0_2 a0_3 a0_4 a0_5 a0_6 a0_7 a0_8 l0_9))) else (tenorref8_Check.j1 kj1 true a0_0 a0_1 a0_2 a0_3 a0_4 a0_5 a0_6 a0_7 a0_8 l0_9)))) = some r := by rw [if_neg (show ¬ (false = true) by decide)] at H; exact H
    clear H;have H := H1;clear H1;have HC10 := Aside0.mk H;clear H
    go_upto_region 3 with (fail)
    go_cut [43] (fun v43 wc => ∃ (kq : Nat) (x43_9 : Bool), v43 = .bool x43_9 ∧ Aside0 (tenorref8_Check.j1 kq x43_9 a0_0 a0_1 a0_2 a0_3 a0_4 a0_5 a0_6 a0_7 a0_8 l0_9 = some r) ∧ Aside0 (kq ≤ kj1) ∧ Aside0 (wc.heap[gb764]? = some (.cells #[.int .i64 a0_0, .int .i64 a0_1, .int .i64 a0_2, .int .i64 a0_3, .int .i64 a0_4, .int .i64 a0_5, .int .i64 a0_6, .int .i64 a0_7, .int .i64 a0_8, (.slice A0_9 l0_9.length c0_9)] 66 (0, 0))) ∧ Aside0 (Below w.heap.size w wc))
    case first =>
     have H := HC10.out;clear HC10
     by_cases c11 : a0_0 ≥ a0_1
     ·
      rw [if_pos c11] at H
      have c11b0 : decide (a0_1 ≤ a0_0) = true := decide_eq_true c11
      clear c11
      (first | rw [c11b0] | (simp only [i64_w, i32_w]; rw [c11b0]) | skip)
      have H' := Aside0.mk H;clear H
      obtain ⟨_,_,_,_,_,_,_,_,_,_,_,_,_,_,_,_,_,_,_,_⟩ := blk10 BK764
      go_wp2
      go_meet
      case rel => exact ⟨_, (true), eS, H', ⟨by have := HJ1.out; first | omega | exact Nat.le_refl _⟩, ⟨(bk BK764)⟩, ⟨bB⟩⟩
     ·
      rw [if_neg c11] at H
      have c11b0 : decide (a0_1 ≤ a0_0) = false := decide_eq_false c11
      clear c11
      (first | rw [c11b0] | (simp only [i64_w, i32_w]; rw [c11b0]) | skip)
      replace H := Option.bind_eq_some_iff.mp H
      obtain ⟨t767, A130, H⟩ := H
      replace H : (if t767 = true then ((tenorref8_in.f a0_3 1 4).bind fun t768 => (if t768 = true then ((tenorref8_in.f a0_4 1 4).bind fun t769 => (if t769 = true then ((tenorref8_in.f a0_5 0 2).bind fun t770 => (tenorref8_Check.j1 kj1 (!t770) a0_0 a0_1 a0_2 a0_3 a0_4 a0_5 a0_6 a0_7 a0_8 l0_9)) else (tenorref8_Check.j1 kj1 true a0_0 a0_1 a0_2 a0_3 a0_4 a0_5 a0_6 a0_7 a0_8 l0_9))) else (tenorref8_Check.j1 kj1 true a0_0 a0_1 a0_2 a0_3 a0_4 a0_5 a0_6 a0_7 a0_8 l0_9))) else (tenorref8_Check.j1 kj1 true a0_0 a0_1 a0_2 a0_3 a0_4 a0_5 a0_6 a0_7 a0_8 l0_9)) = some r := H
      have A13 := Aside0.mk A130;clear A130
      by_cases c14 : t767 = true
      ·
       subst c14
       have H1 : ((tenorref8_in.f a0_3 1 4).bind fun t768 => (if t768 = true then ((tenorref8_in.f a0_4 1 4).bind fun t769 => (if t769 = true then ((tenorref8_in.f a0_5 0 2).bind fun t770 => (tenorref8_Check.j1 kj1 (!t770) a0_0 a0_1 a0_2 a0_3 a0_4 a0_5 a0_6 a0_7 a0_8 l0_9)) else (tenorref8_Check.j1 kj1 true a0_0 a0_1 a0_2 a0_3 a0_4 a0_5 a0_6 a0_7 a0_8 l0_9))) else (tenorref8_Check.j1 kj1 true a0_0 a0_1 a0_2 a0_3 a0_4 a0_5 a0_6 a0_7 a0_8 l0_9))) = some r := by rw [if_pos rfl] at H; exact H
       clear H;have H := H1;clear H1;replace H := Option.bind_eq_some_iff.mp H
       obtain ⟨t768, A150, H⟩ := H
       replace H : (if t768 = true then ((tenorref8_in.f a0_4 1 4).bind fun t769 => (if t769 = true then ((tenorref8_in.f a0_5 0 2).bind fun t770 => (tenorref8_Check.j1 kj1 (!t770) a0_0 a0_1 a0_2 a0_3 a0_4 a0_5 a0_6 a0_7 a0_8 l0_9)) else (tenorref8_Check.j1 kj1 true a0_0 a0_1 a0_2 a0_3 a0_4 a0_5 a0_6 a0_7 a0_8 l0_9))) else (tenorref8_Check.j1 kj1 true a0_0 a0_1 a0_2 a0_3 a0_4 a0_5 a0_6 a0_7 a0_8 l0_9)) = some r := H
       have A15 := Aside0.mk A150;clear A150
       by_cases c16 : t768 = true
       ·
        subst c16
        have H1 : ((tenorref8_in.f a0_4 1 4).bind fun t769 => (if t769 = true then ((tenorref8_in.f a0_5 0 2).bind fun t770 => (tenorref8_Check.j1 kj1 (!t770) a0_0 a0_1 a0_2 a0_3 a0_4 a0_5 a0_6 a0_7 a0_8 l0_9)) else (tenorref8_Check.j1 kj1 true a0_0 a0_1 a0_2 a0_3 a0_4 a0_5 a0_6 a0_7 a0_8 l0_9))) = some r := by rw [if_pos rfl] at H; exact H
        clear H;have H := H1;clear H1;replace H := Option.bind_eq_some_iff.mp H
        obtain ⟨t769, A170, H⟩ := H
        replace H : (if t769 = true then ((tenorref8_in.f a0_5 0 2).bind fun t770 => (tenorref8_Check.j1 kj1 (!t770) a0_0 a0_1 a0_2 a0_3 a0_4 a0_5 a0_6 a0_7 a0_8 l0_9)) else (tenorref8_Check.j1 kj1 true a0_0 a0_1 a0_2 a0_3 a0_4 a0_5 a0_6 a0_7 a0_8 l0_9)) = some r := H
        have A17 := Aside0.mk A170;clear A170
        by_cases c18 : t769 = true
        ·
         subst c18
         have H1 : ((tenorref8_in.f a0_5 0 2).bind fun t770 => (tenorref8_Check.j1 kj1 (!t770) a0_0 a0_1 a0_2 a0_3 a0_4 a0_5 a0_6 a0_7 a0_8 l0_9)) = some r := by rw [if_pos rfl] at H; exact H
         clear H;have H := H1;clear H1;replace H := Option.bind_eq_some_iff.mp H
         obtain ⟨t770, A190, H⟩ := H
         replace H : (tenorref8_Check.j1 kj1 (!t770) a0_0 a0_1 a0_2 a0_3 a0_4 a0_5 a0_6 a0_7 a0_8 l0_9) = some r := H
         have A19 := Aside0.mk A190;clear A190;have H' := Aside0.mk H;clear H
         obtain ⟨_,_,_,_,_,_,_,_,_,_,_,_,_,_,_,_,_,_,_,_⟩ := blk10 BK764
         go_wp2_with (first | (go_at_call 92; (with_reducible refine (tenorref8_in.calls a0_2 1 1200 true _ A13.out).mono ?_); rintro e w' ⟨rfl, ⟨nd, rfl⟩⟩) | (go_at_call 92; (with_reducible refine (tenorref8_in.calls a0_3 1 4 true _ A15.out).mono ?_); rintro e w' ⟨rfl, ⟨nd, rfl⟩⟩) | (go_at_call 92; (with_reducible refine (tenorref8_in.calls a0_4 1 4 true _ A17.out).mono ?_); rintro e w' ⟨rfl, ⟨nd, rfl⟩⟩) | (go_at_call 92; (with_reducible refine (tenorref8_in.calls a0_5 0 2 t770 _ A19.out).mono ?_); rintro e w' ⟨rfl, ⟨nd, rfl⟩⟩))
         go_meet
         case rel => exact ⟨_, (!t770), eS, H', ⟨by have := HJ1.out; first | omega | exact Nat.le_refl _⟩, ⟨(bk BK764)⟩, ⟨bB⟩⟩
        ·
         replace c18 := Bool.eq_false_iff.mpr c18;subst c18
         have H1 : (tenorref8_Check.j1 kj1 true a0_0 a0_1 a0_2 a0_3 a0_4 a0_5 a0_6 a0_7 a0_8 l0_9) = some r := by rw [if_neg (show ¬ (false = true) by decide)] at H; exact H
         clear H;have H := H1;clear H1;have H' := Aside0.mk H;clear H
         obtain ⟨_,_,_,_,_,_,_,_,_,_,_,_,_,_,_,_,_,_,_,_⟩ := blk10 BK764
         go_wp2_with (first | (go_at_call 92; (with_reducible refine (tenorref8_in.calls a0_2 1 1200 true _ A13.out).mono ?_); rintro e w' ⟨rfl, ⟨nd, rfl⟩⟩) | (go_at_call 92; (with_reducible refine (tenorref8_in.calls a0_3 1 4 true _ A15.out).mono ?_); rintro e w' ⟨rfl, ⟨nd, rfl⟩⟩) | (go_at_call 92; (with_reducible refine (tenorref8_in.calls a0_4 1 4 false _ A17.out).mono ?_); rintro e w' ⟨rfl, ⟨nd, rfl⟩⟩))
         go_meet
         case rel => exact ⟨_, (true), eS, H', ⟨by have := HJ1.out; first | omega | exact Nat.le_refl _⟩, ⟨(bk BK764)⟩, ⟨bB⟩⟩
       ·
        replace c16 := Bool.eq_false_iff.mpr c16;subst c16
        have H1 : (tenorref8_Check.j1 kj1 true a0_0 a0_1 a0_2 a0_3 a0_4 a0_5 a0_6 a0_7 a0_8 l0_9) = some r := by rw [if_neg (show ¬ (false = true) by decide)] at H; exact H
        clear H;have H := H1;clear H1;have H' := Aside0.mk H;clear H
        obtain ⟨_,_,_,_,_,_,_,_,_,_,_,_,_,_,_,_,_,_,_,_⟩ := blk10 BK764
        go_wp2_with (first | (go_at_call 92; (with_reducible refine (tenorref8_in.calls a0_2 1 1200 true _ A13.out).mono ?_); rintro e w' ⟨rfl, ⟨nd, rfl⟩⟩) | (go_at_call 92; (with_reducible refine (tenorref8_in.calls a0_3 1 4 false _ A15.out).mono ?_); rintro e w' ⟨rfl, ⟨nd, rfl⟩⟩))
        go_meet
        case rel => exact ⟨_, (true), eS, H', ⟨by have := HJ1.out; first | omega | exact Nat.le_refl _⟩, ⟨(bk BK764)⟩, ⟨bB⟩⟩
      ·
       replace c14 := Bool.eq_false_iff.mpr c14;subst c14
       have H1 : (tenorref8_Check.j1 kj1 true a0_0 a0_1 a0_2 a0_3 a0_4 a0_5 a0_6 a0_7 a0_8 l0_9) = some r := by rw [if_neg (show ¬ (false = true) by decide)] at H; exact H
       clear H;have H := H1;clear H1;have H' := Aside0.mk H;clear H
       obtain ⟨_,_,_,_,_,_,_,_,_,_,_,_,_,_,_,_,_,_,_,_⟩ := blk10 BK764
       go_wp2_with (first | (go_at_call 92; (with_reducible refine (tenorref8_in.calls a0_2 1 1200 false _ A13.out).mono ?_); rintro e w' ⟨rfl, ⟨nd, rfl⟩⟩))
       go_meet
       case rel => exact ⟨_, (true), eS, H', ⟨by have := HJ1.out; first | omega | exact Nat.le_refl _⟩, ⟨(bk BK764)⟩, ⟨bB⟩⟩
    case rest =>
     clear HC10
     obtain ⟨kq, x43_9, rfl, HA, HJ9, BK764, HB⟩ := hcut
     cases kq with
     | zero => exact absurd HA.out (by simp [tenorref8_Check.j1])
     | succ kj9 =>
      have H := HA.out;clear HA
      simp only [tenorref8_Check.j1] at H
      by_cases c24 : x43_9 = true
      ·
       subst c24
       have H1 : (some 80) = some r := by rw [if_pos rfl] at H; exact H
       clear H;have H := H1;clear H1
       obtain rfl := Option.some.inj H
       go_wp2
       go_ret
       exact ⟨eW, bB⟩
      ·
       replace c24 := Bool.eq_false_iff.mpr c24;subst c24
       have H1 : (if a0_5 = 0 then ((tenorref8_in.f a0_6 0 4).bind fun t771 => (if t771 = true then ((tenorref8_in.f a0_7 0 30).bind fun t772 => (if t772 = true then ((tenorref6_Check.f kj9 a0_8 l0_9).bind fun bt773 => (some bt773.1)) else (some 80))) else (some 80))) else (if a0_3 < 3 then (some 80) else ((tenorref8_in.f a0_6 0 4).bind fun t775 => (if t775 = true then ((tenorref8_in.f a0_7 0 30).bind fun t776 => (if t776 = true then ((tenorref6_Check.f kj9 a0_8 l0_9).bind fun bt777 => (some bt777.1)) else (some 80))) else (some 80))))) = some r := by rw [if_neg (show ¬ (false = true) by decide)] at H; exact H
       clear H;have H := H1;clear H1
       by_cases c25 : a0_5 = 0
       ·
        rw [if_pos c25] at H
        have c25b0 : (a0_5 == 0) = true := beq_iff_eq.mpr c25
        have c25b1 : (a0_5 != 0) = false := bne_eq_false_iff_eq.mpr c25
        clear c25;replace H := Option.bind_eq_some_iff.mp H
        obtain ⟨t771, A260, H⟩ := H
        replace H : (if t771 = true then ((tenorref8_in.f a0_7 0 30).bind fun t772 => (if t772 = true then ((tenorref6_Check.f kj9 a0_8 l0_9).bind fun bt773 => (some bt773.1)) else (some 80))) else (some 80)) = some r := H
        have A26 := Aside0.mk A260;clear A260
        by_cases c27 : t771 = true
        ·
         subst c27
         have H1 : ((tenorref8_in.f a0_7 0 30).bind fun t772 => (if t772 = true then ((tenorref6_Check.f kj9 a0_8 l0_9).bind fun bt773 => (some bt773.1)) else (some 80))) = some r := by rw [if_pos rfl] at H; exact H
         clear H;have H := H1;clear H1;replace H := Option.bind_eq_some_iff.mp H
         obtain ⟨t772, A280, H⟩ := H
         replace H : (if t772 = true then ((tenorref6_Check.f kj9 a0_8 l0_9).bind fun bt773 => (some bt773.1)) else (some 80)) = some r := H
         have A28 := Aside0.mk A280;clear A280
         by_cases c29 : t772 = true
         ·
          subst c29
          have H1 : ((tenorref6_Check.f kj9 a0_8 l0_9).bind fun bt773 => (some bt773.1)) = some r := by rw [if_pos rfl] at H; exact H
          clear H;have H := H1;clear H1;replace H := Option.bind_eq_some_iff.mp H
          obtain ⟨⟨t773, t774⟩, A300, H⟩ := H
          replace H : (some t773) = some r := H
          have A30 := Aside0.mk A300;clear A300
          obtain rfl := Option.some.inj H
          obtain ⟨_,_,_,_,_,_,_,_,_,_,_,_,_,_,_,_,_,_,_,_⟩ := blk10 BK764
          go_wp2_with (first | (go_at_call 92; (with_reducible refine (tenorref8_in.calls a0_6 0 4 true _ A26.out).mono ?_); rintro e w' ⟨rfl, ⟨nd, rfl⟩⟩) | (go_at_call 92; (with_reducible refine (tenorref8_in.calls a0_7 0 30 true _ A28.out).mono ?_); rintro e w' ⟨rfl, ⟨nd, rfl⟩⟩) | ((with_reducible refine gG 45 ?_); refine goA (some 67) Try.func45 #[.agg #[.int .i64 a0_8, .slice A0_9 l0_9.length c0_9]] ?_; (with_reducible refine (tenorref6_Check.calls kj9 a0_8 _ _ l0_9 t773 t774 _ ?side1 ?side2 A30.out).mono ?_); (case side1 => repeat (first | exact (Kd.C_below HR0_9.out bB) | (with_reducible refine Kd.C_alloc ?_ _) | (with_reducible refine Kd.C_drewN ?_ _) | (with_reducible refine Kd.C_drew ?_))); (case side2 => exact HC0_9.out); rintro e w32 ⟨rfl, hb⟩; refine ⟨_, rfl, ?_⟩; replace BK764 := bK BK764 hb; replace HB := bS hb; (try clear hb); (try clear hb2); (try clear hk); (try clear hi)))
          go_ret
          exact ⟨eW, bB⟩
         ·
          replace c29 := Bool.eq_false_iff.mpr c29;subst c29
          have H1 : (some 80) = some r := by rw [if_neg (show ¬ (false = true) by decide)] at H; exact H
          clear H;have H := H1;clear H1
          obtain rfl := Option.some.inj H
          obtain ⟨_,_,_,_,_,_,_,_,_,_,_,_,_,_,_,_,_,_,_,_⟩ := blk10 BK764
          go_wp2_with (first | (go_at_call 92; (with_reducible refine (tenorref8_in.calls a0_6 0 4 true _ A26.out).mono ?_); rintro e w' ⟨rfl, ⟨nd, rfl⟩⟩) | (go_at_call 92; (with_reducible refine (tenorref8_in.calls a0_7 0 30 false _ A28.out).mono ?_); rintro e w' ⟨rfl, ⟨nd, rfl⟩⟩))
          go_ret
          exact ⟨eW, bB⟩
        ·
         replace c27 := Bool.eq_false_iff.mpr c27;subst c27
         have H1 : (some 80) = some r := by rw [if_neg (show ¬ (false = true) by decide)] at H; exact H
         clear H;have H := H1;clear H1
         obtain rfl := Option.some.inj H
         obtain ⟨_,_,_,_,_,_,_,_,_,_,_,_,_,_,_,_,_,_,_,_⟩ := blk10 BK764
         go_wp2_with (first | (go_at_call 92; (with_reducible refine (tenorref8_in.calls a0_6 0 4 false _ A26.out).mono ?_); rintro e w' ⟨rfl, ⟨nd, rfl⟩⟩))
         go_ret
         exact ⟨eW, bB⟩
       ·
        rw [if_neg c25] at H
        have c25b0 : (a0_5 == 0) = false := beq_eq_false_iff_ne.mpr c25
        have c25b1 : (a0_5 != 0) = true := bne_iff_ne.mpr c25
        by_cases c35 : a0_3 < 3
        ·
         rw [if_pos c35] at H
         have c35b0 : decide (a0_3 < 3) = true := decide_eq_true c35
         clear c35
         obtain rfl := Option.some.inj H
         obtain ⟨_,_,_,_,_,_,_,_,_,_,_,_,_,_,_,_,_,_,_,_⟩ := blk10 BK764
         go_wp2
         go_ret
         exact ⟨eW, bB⟩
        ·
         rw [if_neg c35] at H
         have c35b0 : decide (a0_3 < 3) = false := decide_eq_false c35
         clear c35;replace H := Option.bind_eq_some_iff.mp H
         obtain ⟨t775, A370, H⟩ := H
         replace H : (if t775 = true then ((tenorref8_in.f a0_7 0 30).bind fun t776 => (if t776 = true then ((tenorref6_Check.f kj9 a0_8 l0_9).bind fun bt777 => (some bt777.1)) else (some 80))) else (some 80)) = some r := H
         have A37 := Aside0.mk A370;clear A370
         by_cases c38 : t775 = true
         ·
          subst c38
          have H1 : ((tenorref8_in.f a0_7 0 30).bind fun t776 => (if t776 = true then ((tenorref6_Check.f kj9 a0_8 l0_9).bind fun bt777 => (some bt777.1)) else (some 80))) = some r := by rw [if_pos rfl] at H; exact H
          clear H;have H := H1;clear H1;replace H := Option.bind_eq_some_iff.mp H
          obtain ⟨t776, A390, H⟩ := H
          replace H : (if t776 = true then ((tenorref6_Check.f kj9 a0_8 l0_9).bind fun bt777 => (some bt777.1)) else (some 80)) = some r := H
          have A39 := Aside0.mk A390;clear A390
          by_cases c40 : t776 = true
          ·
           subst c40
           have H1 : ((tenorref6_Check.f kj9 a0_8 l0_9).bind fun bt777 => (some bt777.1)) = some r := by rw [if_pos rfl] at H; exact H
           clear H;have H := H1;clear H1;replace H := Option.bind_eq_some_iff.mp H
           obtain ⟨⟨t777, t778⟩, A410, H⟩ := H
           replace H : (some t777) = some r := H
           have A41 := Aside0.mk A410;clear A410
           obtain rfl := Option.some.inj H
           obtain ⟨_,_,_,_,_,_,_,_,_,_,_,_,_,_,_,_,_,_,_,_⟩ := blk10 BK764
           go_wp2_with (first | (go_at_call 92; (with_reducible refine (tenorref8_in.calls a0_6 0 4 true _ A37.out).mono ?_); rintro e w' ⟨rfl, ⟨nd, rfl⟩⟩) | (go_at_call 92; (with_reducible refine (tenorref8_in.calls a0_7 0 30 true _ A39.out).mono ?_); rintro e w' ⟨rfl, ⟨nd, rfl⟩⟩) | ((with_reducible refine gG 45 ?_); refine goA (some 67) Try.func45 #[.agg #[.int .i64 a0_8, .slice A0_9 l0_9.length c0_9]] ?_; (with_reducible refine (tenorref6_Check.calls kj9 a0_8 _ _ l0_9 t777 t778 _ ?side1 ?side2 A41.out).mono ?_); (case side1 => repeat (first | exact (Kd.C_below HR0_9.out bB) | (with_reducible refine Kd.C_alloc ?_ _) | (with_reducible refine Kd.C_drewN ?_ _) | (with_reducible refine Kd.C_drew ?_))); (case side2 => exact HC0_9.out); rintro e w43 ⟨rfl, hb⟩; refine ⟨_, rfl, ?_⟩; replace BK764 := bK BK764 hb; replace HB := bS hb; (try clear hb); (try clear hb2); (try clear hk); (try clear hi)))
           go_ret
           exact ⟨eW, bB⟩
          ·
           replace c40 := Bool.eq_false_iff.mpr c40;subst c40
           have H1 : (some 80) = some r := by rw [if_neg (show ¬ (false = true) by decide)] at H; exact H
           clear H;have H := H1;clear H1
           obtain rfl := Option.some.inj H
           obtain ⟨_,_,_,_,_,_,_,_,_,_,_,_,_,_,_,_,_,_,_,_⟩ := blk10 BK764
           go_wp2_with (first | (go_at_call 92; (with_reducible refine (tenorref8_in.calls a0_6 0 4 true _ A37.out).mono ?_); rintro e w' ⟨rfl, ⟨nd, rfl⟩⟩) | (go_at_call 92; (with_reducible refine (tenorref8_in.calls a0_7 0 30 false _ A39.out).mono ?_); rintro e w' ⟨rfl, ⟨nd, rfl⟩⟩))
           go_ret
           exact ⟨eW, bB⟩
         ·
          replace c38 := Bool.eq_false_iff.mpr c38;subst c38
          have H1 : (some 80) = some r := by rw [if_neg (show ¬ (false = true) by decide)] at H; exact H
          clear H;have H := H1;clear H1
          obtain rfl := Option.some.inj H
          obtain ⟨_,_,_,_,_,_,_,_,_,_,_,_,_,_,_,_,_,_,_,_⟩ := blk10 BK764
          go_wp2_with (first | (go_at_call 92; (with_reducible refine (tenorref8_in.calls a0_6 0 4 false _ A37.out).mono ?_); rintro e w' ⟨rfl, ⟨nd, rfl⟩⟩))
          go_ret
          exact ⟨eW, bB⟩
end Go.Proofs.Ytoncignjcgjhhaa.Q
namespace Go.Proofs.Ytoncignjcgjhhaa.Q
open Go.RowKit Go.Proofs.YtoncignjcgjhhaaW.PrintWords Go.Proofs.YtoncignjcgjhhaaW.PrintLast Go.Proofs.YtoncignjcgjhhaaW.PrintMore
attribute [local go_sem] max2_int min2_int max_two min_two max_three min_three max_four min_four   -- for this text's walks alone
mutual
def tenorref8_point.j0 : Nat → Int → Int → Bool → Int → Int → Int → Int → Int → Int → Int → Int → Int → List (S63) → Option (Int × Bool)
  | 0, _, _, _, _, _, _, _, _, _, _, _, _, _ => none
  | k + 1, x1, x2, x28, x798000, x798001, x798002, x798003, x798004, x798005, x798006, x798007, x798008, x798009 => if x28 = true then (some (0, false)) else (if x798003 ≤ 2 then (if x798003 = 2 then ((tenorref8_in.f (wrap64 (x1 + (wrap64 ((wrap64 (7 * x2)) * x798002)))) 0 109572).bind fun t799 => (if t799 = true then (some (wrap64 (x1 + (wrap64 ((wrap64 (7 * x2)) * x798002))), true)) else (some (0, false)))) else ((tenorref8_in.f (wrap64 (x1 + (wrap64 (x2 * x798002)))) 0 109572).bind fun t800 => (if t800 = true then (some (wrap64 (x1 + (wrap64 (x2 * x798002))), true)) else (some (0, false))))) else (if x798003 = 4 then (tenorref8_point.j1 k x1 (wrap64 (12 * (wrap64 (x2 * x798002)))) x798000 x798001 x798002 x798003 x798004 x798005 x798006 x798007 x798008 x798009) else (tenorref8_point.j1 k x1 (wrap64 (x2 * x798002)) x798000 x798001 x798002 x798003 x798004 x798005 x798006 x798007 x798008 x798009)))
def tenorref8_point.j1 : Nat → Int → Int → Int → Int → Int → Int → Int → Int → Int → Int → Int → List (S63) → Option (Int × Bool)
  | 0, _, _, _, _, _, _, _, _, _, _, _, _ => none
  | k + 1, x1, x9, x798000, x798001, x798002, x798003, x798004, x798005, x798006, x798007, x798008, x798009 => (tenorref5_Civil.f k x1).bind fun bt801 => ((tenorref5_Month.f k bt801.1 bt801.2.1 bt801.2.2.1 x9).bind fun bt806 => (if bt806.2.2 = true then (if x798005 = 0 then ((tenorref5_Months.f k x1 x9 false).bind fun bt809 => (some (bt809.1, true))) else (if x798005 = 1 then ((tenorref5_Length.f k bt806.1 bt806.2.1).bind fun bt811 => ((tenorref5_Of.f k bt806.1 bt806.2.1 bt811.1).bind fun bt813 => (some (bt813.1, true)))) else ((tenorref5_Third.f k bt806.1 bt806.2.1).bind fun bt815 => (some (bt815.1, true))))) else (some (0, false))))
end
def tenorref8_point.f (k : Nat) (a0_0 a0_1 a0_2 a0_3 a0_4 a0_5 a0_6 a0_7 a0_8 : Int) (l0_9 : List (S63)) (a1 a2 : Int) : Option (Int × Bool) := (tenorref8_in.f a1 0 109572).bind fun t798 => (if t798 = true then (if a2 < (-200000) then (tenorref8_point.j0 k a1 a2 true a0_0 a0_1 a0_2 a0_3 a0_4 a0_5 a0_6 a0_7 a0_8 l0_9) else (tenorref8_point.j0 k a1 a2 (decide (a2 > 200000)) a0_0 a0_1 a0_2 a0_3 a0_4 a0_5 a0_6 a0_7 a0_8 l0_9)) else (tenorref8_point.j0 k a1 a2 true a0_0 a0_1 a0_2 a0_3 a0_4 a0_5 a0_6 a0_7 a0_8 l0_9))
set_option maxHeartbeats 8000000 in
set_option maxRecDepth 100000 in
theorem tenorref8_point.calls (k : Nat) (a0_0 a0_1 a0_2 a0_3 a0_4 a0_5 a0_6 a0_7 a0_8 : Int) (A0_9 : Option Addr) (c0_9 : Nat) (l0_9 : List (S63)) (a1 a2 r1 : Int) (r2 : Bool) (w : World) (hr0_9 : Kd.C k63 w A0_9 l0_9.length l0_9) (hc0_9 : l0_9.length ≤ c0_9) (h : tenorref8_point.f k a0_0 a0_1 a0_2 a0_3 a0_4 a0_5 a0_6 a0_7 a0_8 l0_9 a1 a2 = some (r1, r2)) :
  Calls Try.prog 89 #[.agg #[.int .i64 a0_0, .int .i64 a0_1, .int .i64 a0_2, .int .i64 a0_3, .int .i64 a0_4, .int .i64 a0_5, .int .i64 a0_6, .int .i64 a0_7, .int .i64 a0_8, .slice A0_9 l0_9.length c0_9], .int .i64 a1, .int .i64 a2] w fun e w' => e = .returned (.tuple #[.int .i64 r1, .bool r2]) ∧ Below w.heap.size w w' := by
 have hu66 := Try.underlying66;have hu115 := Try.underlying115;have HR0_9 := Aside0.mk hr0_9;have HC0_9 := Aside0.mk hc0_9;clear hr0_9 hc0_9
 have HB := Aside0.mk (Below.refl w.heap.size w)
 have H : ((tenorref8_in.f a1 0 109572).bind fun t798 => (if t798 = true then (if a2 < (-200000) then (tenorref8_point.j0 k a1 a2 true a0_0 a0_1 a0_2 a0_3 a0_4 a0_5 a0_6 a0_7 a0_8 l0_9) else (tenorref8_point.j0 k a1 a2 (decide (a2 > 200000)) a0_0 a0_1 a0_2 a0_3 a0_4 a0_5 a0_6 a0_7 a0_8 l0_9)) else (tenorref8_point.j0 k a1 a2 true a0_0 a0_1 a0_2 a0_3 a0_4 a0_5 a0_6 a0_7 a0_8 l0_9))) = some (r1, r2) := h
 clear h;have HC4 := Aside0.mk H;clear H
 go_enter Try.func89, Try.ntmps89
 go_upto_region 1 with (first | ((with_reducible refine gate_dst (N := 3) rfl ?_); refine box_event ?hg (N := 3) ?hd (cs := #[.int .i64 a0_0, .int .i64 a0_1, .int .i64 a0_2, .int .i64 a0_3, .int .i64 a0_4, .int .i64 a0_5, .int .i64 a0_6, .int .i64 a0_7, .int .i64 a0_8, .slice A0_9 l0_9.length c0_9]) (t := 66) ?hr ?_; (case hd => rfl); (case hg => rfl); (case hr => first | (go_simp; done) | (go_simp; rfl)); intro gb797 hg w5 hbox hb; have BK797 := Aside0.mk (hbox); have GW797 := bG hg; have GE797 := bG hg; replace HB := bS hb; clear hb hbox hg))
 (try simp only [Act.put, List.setIfInBounds_toArray, List.set_cons_zero, List.set_cons_succ])
 go_cut [28] (fun v28 wc => ∃ (kq : Nat) (x28_3 : Bool), v28 = .bool x28_3 ∧ Aside0 (tenorref8_point.j0 kq a1 a2 x28_3 a0_0 a0_1 a0_2 a0_3 a0_4 a0_5 a0_6 a0_7 a0_8 l0_9 = some (r1, r2)) ∧ Aside0 (kq ≤ k) ∧ Aside0 (wc.heap[gb797]? = some (.cells #[.int .i64 a0_0, .int .i64 a0_1, .int .i64 a0_2, .int .i64 a0_3, .int .i64 a0_4, .int .i64 a0_5, .int .i64 a0_6, .int .i64 a0_7, .int .i64 a0_8, (.slice A0_9 l0_9.length c0_9)] 66 (0, 0))) ∧ Aside0 (Below w.heap.size w wc))
 case first =>
  have H := HC4.out;clear HC4;replace H := Option.bind_eq_some_iff.mp H
  obtain ⟨t798, A60, H⟩ := H
  replace H : (if t798 = true then (if a2 < (-200000) then (tenorref8_point.j0 k a1 a2 true a0_0 a0_1 a0_2 a0_3 a0_4 a0_5 a0_6 a0_7 a0_8 l0_9) else (tenorref8_point.j0 k a1 a2 (decide (a2 > 200000)) a0_0 a0_1 a0_2 a0_3 a0_4 a0_5 a0_6 a0_7 a0_8 l0_9)) else (tenorref8_point.j0 k a1 a2 true a0_0 a0_1 a0_2 a0_3 a0_4 a0_5 a0_6 a0_7 a0_8 l0_9)) = some (r1, r2) := H
  have A6 := Aside0.mk A60;clear A60
  by_cases c7 : t798 = true
  ·
   subst c7
   have H1 : (if a2 < (-200000) then (tenorref8_point.j0 k a1 a2 true a0_0 a0_1 a0_2 a0_3 a0_4 a0_5 a0_6 a0_7 a0_8 l0_9) else (tenorref8_point.j0 k a1 a2 (decide (a2 > 200000)) a0_0 a0_1 a0_2 a0_3 a0_4 a0_5 a0_6 a0_7 a0_8 l0_9)) = some (r1, r2) := by rw [if_pos rfl] at H; exact H
   clear H;have H := H1;clear H1
   by_cases c8 : a2 < (-200000)
   ·
    rw [if_pos c8] at H
    have c8b0 : decide (a2 < (-200000)) = true := decide_eq_true c8
    clear c8
    (first | rw [c8b0] | (simp only [i64_w, i32_w]; rw [c8b0]) | skip)
    have H' := Aside0.mk H;clear H
    go_wp2_with (first | ((with_reducible refine gG 92 ?_); refine goA (some 19) Try.func92 #[.int .i64 a1, .int .i64 0, .int .i64 109572] ?_; (with_reducible refine (tenorref8_in.calls a1 0 109572 true _ A6.out).mono ?_); rintro e w' ⟨rfl, ⟨nd, rfl⟩⟩; refine ⟨_, rfl, ?_⟩))
    go_meet
    case rel => exact ⟨_, (true), eS, H', ⟨eN⟩, ⟨(bk BK797)⟩, ⟨bB⟩⟩
   ·
    rw [if_neg c8] at H
    have c8b0 : decide (a2 < (-200000)) = false := decide_eq_false c8
    clear c8
    (first | rw [c8b0] | (simp only [i64_w, i32_w]; rw [c8b0]) | skip)
    have H' := Aside0.mk H;clear H
    go_wp2_with (first | ((with_reducible refine gG 92 ?_); refine goA (some 19) Try.func92 #[.int .i64 a1, .int .i64 0, .int .i64 109572] ?_; (with_reducible refine (tenorref8_in.calls a1 0 109572 true _ A6.out).mono ?_); rintro e w' ⟨rfl, ⟨nd, rfl⟩⟩; refine ⟨_, rfl, ?_⟩))
    go_meet
    case rel => exact ⟨_, (decide (a2 > 200000)), eS, H', ⟨eN⟩, ⟨(bk BK797)⟩, ⟨bB⟩⟩
  ·
   replace c7 := Bool.eq_false_iff.mpr c7;subst c7
   have H1 : (tenorref8_point.j0 k a1 a2 true a0_0 a0_1 a0_2 a0_3 a0_4 a0_5 a0_6 a0_7 a0_8 l0_9) = some (r1, r2) := by rw [if_neg (show ¬ (false = true) by decide)] at H; exact H
   clear H;have H := H1;clear H1;have H' := Aside0.mk H;clear H
   go_wp2_with (first | ((with_reducible refine gG 92 ?_); refine goA (some 19) Try.func92 #[.int .i64 a1, .int .i64 0, .int .i64 109572] ?_; (with_reducible refine (tenorref8_in.calls a1 0 109572 false _ A6.out).mono ?_); rintro e w' ⟨rfl, ⟨nd, rfl⟩⟩; refine ⟨_, rfl, ?_⟩))
   go_meet
   case rel => exact ⟨_, (true), eS, H', ⟨eN⟩, ⟨(bk BK797)⟩, ⟨bB⟩⟩
 case rest =>
  clear HC4
  obtain ⟨kq, x28_3, rfl, HA, HJ3, BK797, HB⟩ := hcut
  cases kq with
  | zero => exact absurd HA.out (by simp [tenorref8_point.j0])
  | succ kj3 =>
   have H := HA.out;clear HA
   simp only [tenorref8_point.j0] at H
   by_cases c9 : x28_3 = true
   ·
    subst c9
    have H1 : (some (0, false)) = some (r1, r2) := by rw [if_pos rfl] at H; exact H
    clear H;have H := H1;clear H1
    simp only [Option.some.injEq, Prod.mk.injEq] at H
    obtain ⟨rfl, rfl⟩ := H
    go_wp2
    go_ret2
    exact ⟨eW, bB⟩
   ·
    replace c9 := Bool.eq_false_iff.mpr c9;subst c9
    have H1 : (if a0_3 ≤ 2 then (if a0_3 = 2 then ((tenorref8_in.f (wrap64 (a1 + (wrap64 ((wrap64 (7 * a2)) * a0_2)))) 0 109572).bind fun t799 => (if t799 = true then (some (wrap64 (a1 + (wrap64 ((wrap64 (7 * a2)) * a0_2))), true)) else (some (0, false)))) else ((tenorref8_in.f (wrap64 (a1 + (wrap64 (a2 * a0_2)))) 0 109572).bind fun t800 => (if t800 = true then (some (wrap64 (a1 + (wrap64 (a2 * a0_2))), true)) else (some (0, false))))) else (if a0_3 = 4 then (tenorref8_point.j1 kj3 a1 (wrap64 (12 * (wrap64 (a2 * a0_2)))) a0_0 a0_1 a0_2 a0_3 a0_4 a0_5 a0_6 a0_7 a0_8 l0_9) else (tenorref8_point.j1 kj3 a1 (wrap64 (a2 * a0_2)) a0_0 a0_1 a0_2 a0_3 a0_4 a0_5 a0_6 a0_7 a0_8 l0_9))) = some (r1, r2) := by rw [if_neg (show ¬ (false = true) by decide)] at H; exact H
    clear H;have H := H1;clear H1
    by_cases c10 : a0_3 ≤ 2
    ·
     rw [if_pos c10] at H
     have c10b0 : decide (a0_3 ≤ 2) = true := decide_eq_true c10
     clear c10
     by_cases c11 : a0_3 = 2
     ·
      rw [if_pos c11] at H
      have c11b0 : (a0_3 == 2) = true := beq_iff_eq.mpr c11
      have c11b1 : (a0_3 != 2) = false := bne_eq_false_iff_eq.mpr c11
      clear c11;replace H := Option.bind_eq_some_iff.mp H
      obtain ⟨t799, A120, H⟩ := H
      replace H : (if t799 = true then (some (wrap64 (a1 + (wrap64 ((wrap64 (7 * a2)) * a0_2))), true)) else (some (0, false))) = some (r1, r2) := H
      have A12 := Aside0.mk A120;clear A120
      by_cases c13 : t799 = true
      ·
       subst c13
       have H1 : (some (wrap64 (a1 + (wrap64 ((wrap64 (7 * a2)) * a0_2))), true)) = some (r1, r2) := by rw [if_pos rfl] at H; exact H
       clear H;have H := H1;clear H1
       simp only [Option.some.injEq, Prod.mk.injEq] at H
       obtain ⟨rfl, rfl⟩ := H
       obtain ⟨_,_,_,_,_,_,_,_,_,_,_,_,_,_,_,_,_,_,_,_⟩ := blk10 BK797
       go_wp2_with (first | ((with_reducible refine gG 92 ?_); refine goA (some 49) Try.func92 #[.int .i64 (wrap64 (a1 + (wrap64 ((wrap64 (7 * a2)) * a0_2)))), .int .i64 0, .int .i64 109572] ?_; (with_reducible refine (tenorref8_in.calls (wrap64 (a1 + (wrap64 ((wrap64 (7 * a2)) * a0_2)))) 0 109572 true _ A12.out).mono ?_); rintro e w' ⟨rfl, ⟨nd, rfl⟩⟩; refine ⟨_, rfl, ?_⟩))
       go_ret2
       exact ⟨eW, bB⟩
      ·
       replace c13 := Bool.eq_false_iff.mpr c13;subst c13
       have H1 : (some (0, false)) = some (r1, r2) := by rw [if_neg (show ¬ (false = true) by decide)] at H; exact H
       clear H;have H := H1;clear H1
       simp only [Option.some.injEq, Prod.mk.injEq] at H
       obtain ⟨rfl, rfl⟩ := H
       obtain ⟨_,_,_,_,_,_,_,_,_,_,_,_,_,_,_,_,_,_,_,_⟩ := blk10 BK797
       go_wp2_with (first | ((with_reducible refine gG 92 ?_); refine goA (some 49) Try.func92 #[.int .i64 (wrap64 (a1 + (wrap64 ((wrap64 (7 * a2)) * a0_2)))), .int .i64 0, .int .i64 109572] ?_; (with_reducible refine (tenorref8_in.calls (wrap64 (a1 + (wrap64 ((wrap64 (7 * a2)) * a0_2)))) 0 109572 false _ A12.out).mono ?_); rintro e w' ⟨rfl, ⟨nd, rfl⟩⟩; refine ⟨_, rfl, ?_⟩))
       go_ret2
       exact ⟨eW, bB⟩
     ·
      rw [if_neg c11] at H
      have c11b0 : (a0_3 == 2) = false := beq_eq_false_iff_ne.mpr c11
      have c11b1 : (a0_3 != 2) = true := bne_iff_ne.mpr c11
      replace H := Option.bind_eq_some_iff.mp H
      obtain ⟨t800, A160, H⟩ := H
      replace H : (if t800 = true then (some (wrap64 (a1 + (wrap64 (a2 * a0_2))), true)) else (some (0, false))) = some (r1, r2) := H
      have A16 := Aside0.mk A160;clear A160
      by_cases c17 : t800 = true
      ·
       subst c17
       have H1 : (some (wrap64 (a1 + (wrap64 (a2 * a0_2))), true)) = some (r1, r2) := by rw [if_pos rfl] at H; exact H
       clear H;have H := H1;clear H1
       simp only [Option.some.injEq, Prod.mk.injEq] at H
       obtain ⟨rfl, rfl⟩ := H
       obtain ⟨_,_,_,_,_,_,_,_,_,_,_,_,_,_,_,_,_,_,_,_⟩ := blk10 BK797
       go_wp2_with (first | ((with_reducible refine gG 92 ?_); refine goA (some 49) Try.func92 #[.int .i64 (wrap64 (a1 + (wrap64 (a2 * a0_2)))), .int .i64 0, .int .i64 109572] ?_; (with_reducible refine (tenorref8_in.calls (wrap64 (a1 + (wrap64 (a2 * a0_2)))) 0 109572 true _ A16.out).mono ?_); rintro e w' ⟨rfl, ⟨nd, rfl⟩⟩; refine ⟨_, rfl, ?_⟩))
       go_ret2
       exact ⟨eW, bB⟩
      ·
       replace c17 := Bool.eq_false_iff.mpr c17;subst c17
       have H1 : (some (0, false)) = some (r1, r2) := by rw [if_neg (show ¬ (false = true) by decide)] at H; exact H
       clear H;have H := H1;clear H1
       simp only [Option.some.injEq, Prod.mk.injEq] at H
       obtain ⟨rfl, rfl⟩ := H
       obtain ⟨_,_,_,_,_,_,_,_,_,_,_,_,_,_,_,_,_,_,_,_⟩ := blk10 BK797
       go_wp2_with (first | ((with_reducible refine gG 92 ?_); refine goA (some 49) Try.func92 #[.int .i64 (wrap64 (a1 + (wrap64 (a2 * a0_2)))), .int .i64 0, .int .i64 109572] ?_; (with_reducible refine (tenorref8_in.calls (wrap64 (a1 + (wrap64 (a2 * a0_2)))) 0 109572 false _ A16.out).mono ?_); rintro e w' ⟨rfl, ⟨nd, rfl⟩⟩; refine ⟨_, rfl, ?_⟩))
       go_ret2
       exact ⟨eW, bB⟩
    ·
     rw [if_neg c10] at H
     have c10b0 : decide (a0_3 ≤ 2) = false := decide_eq_false c10
     clear c10;have HC20 := Aside0.mk H;clear H
     obtain ⟨_,_,_,_,_,_,_,_,_,_,_,_,_,_,_,_,_,_,_,_⟩ := blk10 BK797
     go_upto_if 58 with (fail)
     go_cut [9] (fun v9 wc => ∃ (kq : Nat) (x9_19 : Int), v9 = .int .i64 x9_19 ∧ Aside0 (tenorref8_point.j1 kq a1 x9_19 a0_0 a0_1 a0_2 a0_3 a0_4 a0_5 a0_6 a0_7 a0_8 l0_9 = some (r1, r2)) ∧ Aside0 (kq ≤ kj3) ∧ Aside0 (wc.heap[gb797]? = some (.cells #[.int .i64 a0_0, .int .i64 a0_1, .int .i64 a0_2, .int .i64 a0_3, .int .i64 a0_4, .int .i64 a0_5, .int .i64 a0_6, .int .i64 a0_7, .int .i64 a0_8, (.slice A0_9 l0_9.length c0_9)] 66 (0, 0))) ∧ Aside0 (Below w.heap.size w wc))
     case first =>
      have H := HC20.out;clear HC20
      by_cases c22 : a0_3 = 4
      ·
       rw [if_pos c22] at H
       have c22b0 : (a0_3 == 4) = true := beq_iff_eq.mpr c22
       have c22b1 : (a0_3 != 4) = false := bne_eq_false_iff_eq.mpr c22
       clear c22
       (first | rw [c22b0] | (simp only [i64_w, i32_w]; rw [c22b0]) | skip)
       have H' := Aside0.mk H;clear H
       go_wp2
       go_meet
       case rel => exact ⟨_, (wrap64 (12 * (wrap64 (a2 * a0_2)))), eS, H', ⟨by have := HJ3.out; first | omega | exact Nat.le_refl _⟩, ⟨(bk BK797)⟩, ⟨bB⟩⟩
      ·
       rw [if_neg c22] at H
       have c22b0 : (a0_3 == 4) = false := beq_eq_false_iff_ne.mpr c22
       have c22b1 : (a0_3 != 4) = true := bne_iff_ne.mpr c22
       (first | rw [c22b0] | (simp only [i64_w, i32_w]; rw [c22b0]) | skip)
       have H' := Aside0.mk H;clear H
       go_wp2
       go_meet
       case rel => exact ⟨_, (wrap64 (a2 * a0_2)), eS, H', ⟨by have := HJ3.out; first | omega | exact Nat.le_refl _⟩, ⟨(bk BK797)⟩, ⟨bB⟩⟩
     case rest =>
      clear HC20
      obtain ⟨kq, x9_19, rfl, HA, HJ19, BK797, HB⟩ := hcut
      cases kq with
      | zero => exact absurd HA.out (by simp [tenorref8_point.j1])
      | succ kj19 =>
       have H := HA.out;clear HA
       simp only [tenorref8_point.j1] at H
       replace H := Option.bind_eq_some_iff.mp H
       obtain ⟨⟨t801, t802, t803, t804⟩, A230, H⟩ := H
       replace H : ((tenorref5_Month.f kj19 t801 t802 t803 x9_19).bind fun bt806 => (if bt806.2.2 = true then (if a0_5 = 0 then ((tenorref5_Months.f kj19 a1 x9_19 false).bind fun bt809 => (some (bt809.1, true))) else (if a0_5 = 1 then ((tenorref5_Length.f kj19 bt806.1 bt806.2.1).bind fun bt811 => ((tenorref5_Of.f kj19 bt806.1 bt806.2.1 bt811.1).bind fun bt813 => (some (bt813.1, true)))) else ((tenorref5_Third.f kj19 bt806.1 bt806.2.1).bind fun bt815 => (some (bt815.1, true))))) else (some (0, false)))) = some (r1, r2) := H
       have A23 := Aside0.mk A230;clear A230;replace H := Option.bind_eq_some_iff.mp H
       obtain ⟨⟨t806, t807, t808⟩, A240, H⟩ := H
       replace H : (if t808 = true then (if a0_5 = 0 then ((tenorref5_Months.f kj19 a1 x9_19 false).bind fun bt809 => (some (bt809.1, true))) else (if a0_5 = 1 then ((tenorref5_Length.f kj19 t806 t807).bind fun bt811 => ((tenorref5_Of.f kj19 t806 t807 bt811.1).bind fun bt813 => (some (bt813.1, true)))) else ((tenorref5_Third.f kj19 t806 t807).bind fun bt815 => (some (bt815.1, true))))) else (some (0, false))) = some (r1, r2) := H
       have A24 := Aside0.mk A240;clear A240
       by_cases c25 : t808 = true
       ·
        subst c25
        have H1 : (if a0_5 = 0 then ((tenorref5_Months.f kj19 a1 x9_19 false).bind fun bt809 => (some (bt809.1, true))) else (if a0_5 = 1 then ((tenorref5_Length.f kj19 t806 t807).bind fun bt811 => ((tenorref5_Of.f kj19 t806 t807 bt811.1).bind fun bt813 => (some (bt813.1, true)))) else ((tenorref5_Third.f kj19 t806 t807).bind fun bt815 => (some (bt815.1, true))))) = some (r1, r2) := by rw [if_pos rfl] at H; exact H
        clear H;have H := H1;clear H1
        by_cases c26 : a0_5 = 0
        ·
         rw [if_pos c26] at H
         have c26b0 : (a0_5 == 0) = true := beq_iff_eq.mpr c26
         have c26b1 : (a0_5 != 0) = false := bne_eq_false_iff_eq.mpr c26
         clear c26;replace H := Option.bind_eq_some_iff.mp H
         obtain ⟨⟨t809, t810⟩, A270, H⟩ := H
         replace H : (some (t809, true)) = some (r1, r2) := H
         have A27 := Aside0.mk A270;clear A270
         simp only [Option.some.injEq, Prod.mk.injEq] at H
         obtain ⟨rfl, rfl⟩ := H
         go_wp2_with (first | ((with_reducible refine gG 96 ?_); refine goA (some 63) Try.func96 #[.int .i64 a1] ?_; (with_reducible refine (tenorref5_Civil.calls kj19 a1 t801 t802 t803 t804 _ A23.out).mono ?_); rintro e w28 ⟨rfl, hb⟩; refine ⟨_, rfl, ?_⟩; replace BK797 := bK BK797 hb; replace HB := bS hb; (try clear hb); (try clear hb2); (try clear hk); (try clear hi)) | ((with_reducible refine gate_dst (N := 10) rfl ?_); refine box_event ?hg (N := 10) ?hd (cs := #[.int .i64 0, .int .i64 0, .int .i64 0]) (t := 115) ?hr ?_; (case hd => rfl); (case hg => rfl); (case hr => first | (go_simp; done) | (go_simp; rfl)); intro gb805 hg w29 hbox hb; have BK805 := Aside0.mk (hbox); have GW805 := bG hg; have GE805 := bG hg; replace HB := bS hb; have NB797_805 := Aside0.mk ((by rw [hg]; exact Nat.ne_of_lt (blk_lt (g := gb797) (o := .cells #[.int .i64 a0_0, .int .i64 a0_1, .int .i64 a0_2, .int .i64 a0_3, .int .i64 a0_4, .int .i64 a0_5, .int .i64 a0_6, .int .i64 a0_7, .int .i64 a0_8, .slice A0_9 l0_9.length c0_9] 66 (0, 0)) (bk BK797)) : gb797 ≠ gb805)); have NB805_797 := Aside0.mk ((by rw [hg]; exact Nat.ne_of_gt (blk_lt (g := gb797) (o := .cells #[.int .i64 a0_0, .int .i64 a0_1, .int .i64 a0_2, .int .i64 a0_3, .int .i64 a0_4, .int .i64 a0_5, .int .i64 a0_6, .int .i64 a0_7, .int .i64 a0_8, .slice A0_9 l0_9.length c0_9] 66 (0, 0)) (bk BK797)) : gb805 ≠ gb797)); replace BK797 := bK BK797 hb; clear hb hbox hg; have hnb30 := NB805_797.out; have hnc30 := NB797_805.out; obtain ⟨_,_,_,_,_,_⟩ := blk3 BK805) | ((with_reducible refine gG 115 ?_); refine goA (some 69) Try.func115 #[.agg #[.int .i64 t801, .int .i64 t802, .int .i64 t803], .int .i64 x9_19] ?_; (with_reducible refine (tenorref5_Month.calls kj19 t801 t802 t803 x9_19 t806 t807 true _ A24.out).mono ?_); rintro e w32 ⟨rfl, hb⟩; refine ⟨_, rfl, ?_⟩; replace BK797 := Aside0.mk (blk_below (g := gb797) (o := .cells #[.int .i64 a0_0, .int .i64 a0_1, .int .i64 a0_2, .int .i64 a0_3, .int .i64 a0_4, .int .i64 a0_5, .int .i64 a0_6, .int .i64 a0_7, .int .i64 a0_8, .slice A0_9 l0_9.length c0_9] 66 (0, 0)) (by (with_reducible repeat (first | refine blk_drewN ?_ _ | refine blk_drew ?_ | refine blk_alloc ?_ _)); refine blk_far ?_ NB797_805.out _; (with_reducible repeat (first | refine blk_drewN ?_ _ | refine blk_drew ?_ | refine blk_alloc ?_ _)); refine blk_far ?_ NB797_805.out _; (with_reducible repeat (first | refine blk_drewN ?_ _ | refine blk_drew ?_ | refine blk_alloc ?_ _)); refine blk_far ?_ NB797_805.out _; (with_reducible repeat (first | refine blk_drewN ?_ _ | refine blk_drew ?_ | refine blk_alloc ?_ _)); exact BK797.out) hb); replace BK805 := Aside0.mk (blk_below (g := gb805) (o := .cells #[.int .i64 t801, .int .i64 t802, .int .i64 t803] 115 (0, 0)) (by (with_reducible repeat (first | refine blk_drewN ?_ _ | refine blk_drew ?_ | refine blk_alloc ?_ _)); refine blk_put (cs := #[.int .i64 t801, .int .i64 t802, .int .i64 0]) ?_ 2 _ rfl; (with_reducible repeat (first | refine blk_drewN ?_ _ | refine blk_drew ?_ | refine blk_alloc ?_ _)); refine blk_put (cs := #[.int .i64 t801, .int .i64 0, .int .i64 0]) ?_ 1 _ rfl; (with_reducible repeat (first | refine blk_drewN ?_ _ | refine blk_drew ?_ | refine blk_alloc ?_ _)); refine blk_put (cs := #[.int .i64 0, .int .i64 0, .int .i64 0]) ?_ 0 _ rfl; (with_reducible repeat (first | refine blk_drewN ?_ _ | refine blk_drew ?_ | refine blk_alloc ?_ _)); exact BK805.out) hb); replace HB := bS hb; (try clear hb); (try clear hb2); (try clear hk); (try clear hi); obtain ⟨_,_,_,_,_,_,_,_,_,_,_,_,_,_,_,_,_,_,_,_⟩ := blk10 BK797) | ((with_reducible refine gG 116 ?_); refine goA (some 88) Try.func116 #[.int .i64 a1, .int .i64 x9_19, .bool false] ?_; (with_reducible refine (tenorref5_Months.calls kj19 a1 x9_19 false t809 t810 _ A27.out).mono ?_); rintro e w34 ⟨rfl, hb⟩; refine ⟨_, rfl, ?_⟩; replace BK797 := bK BK797 hb; replace BK805 := bK BK805 hb; replace HB := bS hb; (try clear hb); (try clear hb2); (try clear hk); (try clear hi)))
         go_ret2
         exact ⟨eW, bB⟩
        ·
         rw [if_neg c26] at H
         have c26b0 : (a0_5 == 0) = false := beq_eq_false_iff_ne.mpr c26
         have c26b1 : (a0_5 != 0) = true := bne_iff_ne.mpr c26
         by_cases c35 : a0_5 = 1
         ·
          rw [if_pos c35] at H
          have c35b0 : (a0_5 == 1) = true := beq_iff_eq.mpr c35
          have c35b1 : (a0_5 != 1) = false := bne_eq_false_iff_eq.mpr c35
          clear c35;replace H := Option.bind_eq_some_iff.mp H
          obtain ⟨⟨t811, t812⟩, A360, H⟩ := H
          replace H : ((tenorref5_Of.f kj19 t806 t807 t811).bind fun bt813 => (some (bt813.1, true))) = some (r1, r2) := H
          have A36 := Aside0.mk A360;clear A360;replace H := Option.bind_eq_some_iff.mp H
          obtain ⟨⟨t813, t814⟩, A370, H⟩ := H
          replace H : (some (t813, true)) = some (r1, r2) := H
          have A37 := Aside0.mk A370;clear A370
          simp only [Option.some.injEq, Prod.mk.injEq] at H
          obtain ⟨rfl, rfl⟩ := H
          go_wp2_with (first | ((with_reducible refine gG 96 ?_); refine goA (some 63) Try.func96 #[.int .i64 a1] ?_; (with_reducible refine (tenorref5_Civil.calls kj19 a1 t801 t802 t803 t804 _ A23.out).mono ?_); rintro e w38 ⟨rfl, hb⟩; refine ⟨_, rfl, ?_⟩; replace BK797 := bK BK797 hb; replace HB := bS hb; (try clear hb); (try clear hb2); (try clear hk); (try clear hi)) | ((with_reducible refine gate_dst (N := 10) rfl ?_); refine box_event ?hg (N := 10) ?hd (cs := #[.int .i64 0, .int .i64 0, .int .i64 0]) (t := 115) ?hr ?_; (case hd => rfl); (case hg => rfl); (case hr => first | (go_simp; done) | (go_simp; rfl)); intro gb805 hg w39 hbox hb; have BK805 := Aside0.mk (hbox); have GW805 := bG hg; have GE805 := bG hg; replace HB := bS hb; have NB797_805 := Aside0.mk ((by rw [hg]; exact Nat.ne_of_lt (blk_lt (g := gb797) (o := .cells #[.int .i64 a0_0, .int .i64 a0_1, .int .i64 a0_2, .int .i64 a0_3, .int .i64 a0_4, .int .i64 a0_5, .int .i64 a0_6, .int .i64 a0_7, .int .i64 a0_8, .slice A0_9 l0_9.length c0_9] 66 (0, 0)) (bk BK797)) : gb797 ≠ gb805)); have NB805_797 := Aside0.mk ((by rw [hg]; exact Nat.ne_of_gt (blk_lt (g := gb797) (o := .cells #[.int .i64 a0_0, .int .i64 a0_1, .int .i64 a0_2, .int .i64 a0_3, .int .i64 a0_4, .int .i64 a0_5, .int .i64 a0_6, .int .i64 a0_7, .int .i64 a0_8, .slice A0_9 l0_9.length c0_9] 66 (0, 0)) (bk BK797)) : gb805 ≠ gb797)); replace BK797 := bK BK797 hb; clear hb hbox hg; have hnb40 := NB805_797.out; have hnc40 := NB797_805.out; obtain ⟨_,_,_,_,_,_⟩ := blk3 BK805) | ((with_reducible refine gG 115 ?_); refine goA (some 69) Try.func115 #[.agg #[.int .i64 t801, .int .i64 t802, .int .i64 t803], .int .i64 x9_19] ?_; (with_reducible refine (tenorref5_Month.calls kj19 t801 t802 t803 x9_19 t806 t807 true _ A24.out).mono ?_); rintro e w42 ⟨rfl, hb⟩; refine ⟨_, rfl, ?_⟩; replace BK797 := Aside0.mk (blk_below (g := gb797) (o := .cells #[.int .i64 a0_0, .int .i64 a0_1, .int .i64 a0_2, .int .i64 a0_3, .int .i64 a0_4, .int .i64 a0_5, .int .i64 a0_6, .int .i64 a0_7, .int .i64 a0_8, .slice A0_9 l0_9.length c0_9] 66 (0, 0)) (by (with_reducible repeat (first | refine blk_drewN ?_ _ | refine blk_drew ?_ | refine blk_alloc ?_ _)); refine blk_far ?_ NB797_805.out _; (with_reducible repeat (first | refine blk_drewN ?_ _ | refine blk_drew ?_ | refine blk_alloc ?_ _)); refine blk_far ?_ NB797_805.out _; (with_reducible repeat (first | refine blk_drewN ?_ _ | refine blk_drew ?_ | refine blk_alloc ?_ _)); refine blk_far ?_ NB797_805.out _; (with_reducible repeat (first | refine blk_drewN ?_ _ | refine blk_drew ?_ | refine blk_alloc ?_ _)); exact BK797.out) hb); replace BK805 := Aside0.mk (blk_below (g := gb805) (o := .cells #[.int .i64 t801, .int .i64 t802, .int .i64 t803] 115 (0, 0)) (by (with_reducible repeat (first | refine blk_drewN ?_ _ | refine blk_drew ?_ | refine blk_alloc ?_ _)); refine blk_put (cs := #[.int .i64 t801, .int .i64 t802, .int .i64 0]) ?_ 2 _ rfl; (with_reducible repeat (first | refine blk_drewN ?_ _ | refine blk_drew ?_ | refine blk_alloc ?_ _)); refine blk_put (cs := #[.int .i64 t801, .int .i64 0, .int .i64 0]) ?_ 1 _ rfl; (with_reducible repeat (first | refine blk_drewN ?_ _ | refine blk_drew ?_ | refine blk_alloc ?_ _)); refine blk_put (cs := #[.int .i64 0, .int .i64 0, .int .i64 0]) ?_ 0 _ rfl; (with_reducible repeat (first | refine blk_drewN ?_ _ | refine blk_drew ?_ | refine blk_alloc ?_ _)); exact BK805.out) hb); replace HB := bS hb; (try clear hb); (try clear hb2); (try clear hk); (try clear hi); obtain ⟨_,_,_,_,_,_,_,_,_,_,_,_,_,_,_,_,_,_,_,_⟩ := blk10 BK797) | ((with_reducible refine gG 117 ?_); refine goA (some 96) Try.func117 #[.int .i64 t806, .int .i64 t807] ?_; (with_reducible refine (tenorref5_Length.calls kj19 t806 t807 t811 t812 _ A36.out).mono ?_); rintro e w' ⟨rfl, ⟨nd, rfl⟩⟩; refine ⟨_, rfl, ?_⟩) | ((with_reducible refine gG 97 ?_); refine goA (some 103) Try.func97 #[.int .i64 t806, .int .i64 t807, .int .i64 t811] ?_; (with_reducible refine (tenorref5_Of.calls kj19 t806 t807 t811 t813 t814 _ A37.out).mono ?_); rintro e w' ⟨rfl, ⟨nd, rfl⟩⟩; refine ⟨_, rfl, ?_⟩))
          go_ret2
          exact ⟨eW, bB⟩
         ·
          rw [if_neg c35] at H
          have c35b0 : (a0_5 == 1) = false := beq_eq_false_iff_ne.mpr c35
          have c35b1 : (a0_5 != 1) = true := bne_iff_ne.mpr c35
          replace H := Option.bind_eq_some_iff.mp H
          obtain ⟨⟨t815, t816⟩, A440, H⟩ := H
          replace H : (some (t815, true)) = some (r1, r2) := H
          have A44 := Aside0.mk A440;clear A440
          simp only [Option.some.injEq, Prod.mk.injEq] at H
          obtain ⟨rfl, rfl⟩ := H
          go_wp2_with (first | ((with_reducible refine gG 96 ?_); refine goA (some 63) Try.func96 #[.int .i64 a1] ?_; (with_reducible refine (tenorref5_Civil.calls kj19 a1 t801 t802 t803 t804 _ A23.out).mono ?_); rintro e w45 ⟨rfl, hb⟩; refine ⟨_, rfl, ?_⟩; replace BK797 := bK BK797 hb; replace HB := bS hb; (try clear hb); (try clear hb2); (try clear hk); (try clear hi)) | ((with_reducible refine gate_dst (N := 10) rfl ?_); refine box_event ?hg (N := 10) ?hd (cs := #[.int .i64 0, .int .i64 0, .int .i64 0]) (t := 115) ?hr ?_; (case hd => rfl); (case hg => rfl); (case hr => first | (go_simp; done) | (go_simp; rfl)); intro gb805 hg w46 hbox hb; have BK805 := Aside0.mk (hbox); have GW805 := bG hg; have GE805 := bG hg; replace HB := bS hb; have NB797_805 := Aside0.mk ((by rw [hg]; exact Nat.ne_of_lt (blk_lt (g := gb797) (o := .cells #[.int .i64 a0_0, .int .i64 a0_1, .int .i64 a0_2, .int .i64 a0_3, .int .i64 a0_4, .int .i64 a0_5, .int .i64 a0_6, .int .i64 a0_7, .int .i64 a0_8, .slice A0_9 l0_9.length c0_9] 66 (0, 0)) (bk BK797)) : gb797 ≠ gb805)); have NB805_797 := Aside0.mk ((by rw [hg]; exact Nat.ne_of_gt (blk_lt (g := gb797) (o := .cells #[.int .i64 a0_0, .int .i64 a0_1, .int .i64 a0_2, .int .i64 a0_3, .int .i64 a0_4, .int .i64 a0_5, .int .i64 a0_6, .int .i64 a0_7, .int .i64 a0_8, .slice A0_9 l0_9.length c0_9] 66 (0, 0)) (bk BK797)) : gb805 ≠ gb797)); replace BK797 := bK BK797 hb; clear hb hbox hg; have hnb47 := NB805_797.out; have hnc47 := NB797_805.out; obtain ⟨_,_,_,_,_,_⟩ := blk3 BK805) | ((with_reducible refine gG 115 ?_); refine goA (some 69) Try.func115 #[.agg #[.int .i64 t801, .int .i64 t802, .int .i64 t803], .int .i64 x9_19] ?_; (with_reducible refine (tenorref5_Month.calls kj19 t801 t802 t803 x9_19 t806 t807 true _ A24.out).mono ?_); rintro e w49 ⟨rfl, hb⟩; refine ⟨_, rfl, ?_⟩; replace BK797 := Aside0.mk (blk_below (g := gb797) (o := .cells #[.int .i64 a0_0, .int .i64 a0_1, .int .i64 a0_2, .int .i64 a0_3, .int .i64 a0_4, .int .i64 a0_5, .int .i64 a0_6, .int .i64 a0_7, .int .i64 a0_8, .slice A0_9 l0_9.length c0_9] 66 (0, 0)) (by (with_reducible repeat (first | refine blk_drewN ?_ _ | refine blk_drew ?_ | refine blk_alloc ?_ _)); refine blk_far ?_ NB797_805.out _; (with_reducible repeat (first | refine blk_drewN ?_ _ | refine blk_drew ?_ | refine blk_alloc ?_ _)); refine blk_far ?_ NB797_805.out _; (with_reducible repeat (first | refine blk_drewN ?_ _ | refine blk_drew ?_ | refine blk_alloc ?_ _)); refine blk_far ?_ NB797_805.out _; (with_reducible repeat (first | refine blk_drewN ?_ _ | refine blk_drew ?_ | refine blk_alloc ?_ _)); exact BK797.out) hb); replace BK805 := Aside0.mk (blk_below (g := gb805) (o := .cells #[.int .i64 t801, .int .i64 t802, .int .i64 t803] 115 (0, 0)) (by (with_reducible repeat (first | refine blk_drewN ?_ _ | refine blk_drew ?_ | refine blk_alloc ?_ _)); refine blk_put (cs := #[.int .i64 t801, .int .i64 t802, .int .i64 0]) ?_ 2 _ rfl; (with_reducible repeat (first | refine blk_drewN ?_ _ | refine blk_drew ?_ | refine blk_alloc ?_ _)); refine blk_put (cs := #[.int .i64 t801, .int .i64 0, .int .i64 0]) ?_ 1 _ rfl; (with_reducible repeat (first | refine blk_drewN ?_ _ | refine blk_drew ?_ | refine blk_alloc ?_ _)); refine blk_put (cs := #[.int .i64 0, .int .i64 0, .int .i64 0]) ?_ 0 _ rfl; (with_reducible repeat (first | refine blk_drewN ?_ _ | refine blk_drew ?_ | refine blk_alloc ?_ _)); exact BK805.out) hb); replace HB := bS hb; (try clear hb); (try clear hb2); (try clear hk); (try clear hi); obtain ⟨_,_,_,_,_,_,_,_,_,_,_,_,_,_,_,_,_,_,_,_⟩ := blk10 BK797) | ((with_reducible refine gG 118 ?_); refine goA (some 80) Try.func118 #[.int .i64 t806, .int .i64 t807] ?_; (with_reducible refine (tenorref5_Third.calls kj19 t806 t807 t815 t816 _ A44.out).mono ?_); rintro e w' ⟨rfl, ⟨nd, rfl⟩⟩; refine ⟨_, rfl, ?_⟩))
          go_ret2
          exact ⟨eW, bB⟩
       ·
        replace c25 := Bool.eq_false_iff.mpr c25;subst c25
        have H1 : (some (0, false)) = some (r1, r2) := by rw [if_neg (show ¬ (false = true) by decide)] at H; exact H
        clear H;have H := H1;clear H1
        simp only [Option.some.injEq, Prod.mk.injEq] at H
        obtain ⟨rfl, rfl⟩ := H
        go_wp2_with (first | ((with_reducible refine gG 96 ?_); refine goA (some 63) Try.func96 #[.int .i64 a1] ?_; (with_reducible refine (tenorref5_Civil.calls kj19 a1 t801 t802 t803 t804 _ A23.out).mono ?_); rintro e w51 ⟨rfl, hb⟩; refine ⟨_, rfl, ?_⟩; replace BK797 := bK BK797 hb; replace HB := bS hb; (try clear hb); (try clear hb2); (try clear hk); (try clear hi)) | ((with_reducible refine gate_dst (N := 10) rfl ?_); refine box_event ?hg (N := 10) ?hd (cs := #[.int .i64 0, .int .i64 0, .int .i64 0]) (t := 115) ?hr ?_; (case hd => rfl); (case hg => rfl); (case hr => first | (go_simp; done) | (go_simp; rfl)); intro gb805 hg w52 hbox hb; have BK805 := Aside0.mk (hbox); have GW805 := bG hg; have GE805 := bG hg; replace HB := bS hb; have NB797_805 := Aside0.mk ((by rw [hg]; exact Nat.ne_of_lt (blk_lt (g := gb797) (o := .cells #[.int .i64 a0_0, .int .i64 a0_1, .int .i64 a0_2, .int .i64 a0_3, .int .i64 a0_4, .int .i64 a0_5, .int .i64 a0_6, .int .i64 a0_7, .int .i64 a0_8, .slice A0_9 l0_9.length c0_9] 66 (0, 0)) (bk BK797)) : gb797 ≠ gb805)); have NB805_797 := Aside0.mk ((by rw [hg]; exact Nat.ne_of_gt (blk_lt (g := gb797) (o := .cells #[.int .i64 a0_0, .int .i64 a0_1, .int .i64 a0_2, .int .i64 a0_3, .int .i64 a0_4, .int .i64 a0_5, .int .i64 a0_6, .int .i64 a0_7, .int .i64 a0_8, .slice A0_9 l0_9.length c0_9] 66 (0, 0)) (bk BK797)) : gb805 ≠ gb797)); replace BK797 := bK BK797 hb; clear hb hbox hg; have hnb53 := NB805_797.out; have hnc53 := NB797_805.out; obtain ⟨_,_,_,_,_,_⟩ := blk3 BK805) | ((with_reducible refine gG 115 ?_); refine goA (some 69) Try.func115 #[.agg #[.int .i64 t801, .int .i64 t802, .int .i64 t803], .int .i64 x9_19] ?_; (with_reducible refine (tenorref5_Month.calls kj19 t801 t802 t803 x9_19 t806 t807 false _ A24.out).mono ?_); rintro e w55 ⟨rfl, hb⟩; refine ⟨_, rfl, ?_⟩; replace BK797 := Aside0.mk (blk_below (g := gb797) (o := .cells #[.int .i64 a0_0, .int .i64 a0_1, .int .i64 a0_2, .int .i64 a0_3, .int .i64 a0_4, .int .i64 a0_5, .int .i64 a0_6, .int .i64 a0_7, .int .i64 a0_8, .slice A0_9 l0_9.length c0_9] 66 (0, 0)) (by (with_reducible repeat (first | refine blk_drewN ?_ _ | refine blk_drew ?_ | refine blk_alloc ?_ _)); refine blk_far ?_ NB797_805.out _; (with_reducible repeat (first | refine blk_drewN ?_ _ | refine blk_drew ?_ | refine blk_alloc ?_ _)); refine blk_far ?_ NB797_805.out _; (with_reducible repeat (first | refine blk_drewN ?_ _ | refine blk_drew ?_ | refine blk_alloc ?_ _)); refine blk_far ?_ NB797_805.out _; (with_reducible repeat (first | refine blk_drewN ?_ _ | refine blk_drew ?_ | refine blk_alloc ?_ _)); exact BK797.out) hb); replace BK805 := Aside0.mk (blk_below (g := gb805) (o := .cells #[.int .i64 t801, .int .i64 t802, .int .i64 t803] 115 (0, 0)) (by (with_reducible repeat (first | refine blk_drewN ?_ _ | refine blk_drew ?_ | refine blk_alloc ?_ _)); refine blk_put (cs := #[.int .i64 t801, .int .i64 t802, .int .i64 0]) ?_ 2 _ rfl; (with_reducible repeat (first | refine blk_drewN ?_ _ | refine blk_drew ?_ | refine blk_alloc ?_ _)); refine blk_put (cs := #[.int .i64 t801, .int .i64 0, .int .i64 0]) ?_ 1 _ rfl; (with_reducible repeat (first | refine blk_drewN ?_ _ | refine blk_drew ?_ | refine blk_alloc ?_ _)); refine blk_put (cs := #[.int .i64 0, .int .i64 0, .int .i64 0]) ?_ 0 _ rfl; (with_reducible repeat (first | refine blk_drewN ?_ _ | refine blk_drew ?_ | refine blk_alloc ?_ _)); exact BK805.out) hb); replace HB := bS hb; (try clear hb); (try clear hb2); (try clear hk); (try clear hi)))
        go_ret2
        exact ⟨eW, bB⟩
end Go.Proofs.Ytoncignjcgjhhaa.Q
namespace Go.Proofs.Ytoncignjcgjhhaa.S
open Go.RowKit Go.Proofs.YtoncignjcgjhhaaW.PrintWords Go.Proofs.YtoncignjcgjhhaaW.PrintLast Go.Proofs.YtoncignjcgjhhaaW.PrintMore
open Go.Proofs.Ytoncignjcgjhhaa.Q
open Go.Proofs.Ytoncignjcgjhhaa.L (w64 td tm tm0)
theorem rin (a b c : Int) : tenorref8_in.f a b c = some (decide (b ≤ a ∧ a ≤ c)) := by
 unfold tenorref8_in.f
 by_cases h : a ≥ b
 ·
  rw [if_pos h]; simp [h]
 ·
  rw [if_neg h]; simp; omega
theorem rCheck (s : Sp) : Ev (fun k => tenorref8_Check.f k s.a s.b s.n s.u s.st s.ro s.cv s.lag s.we s.l) s.chk := by
 refine Ev.congr (fun k => by unfold tenorref8_Check.f; rw [rin, Option.bind_some, rin, Option.bind_some]) ?_
 have ht : ¬ s.days → Ev (fun k => tenorref8_Check.j0 k true s.a s.b s.n s.u s.st s.ro s.cv s.lag s.we s.l) s.chk := fun h => by
  rw [chk_days h]
  exact Ev.step (f := fun _ => some (51 : Int)) (fun k => by rw [tenorref8_Check.j0, if_pos rfl]) (Ev.now _)
 refine ev_dec (fun ha => ?_) (fun ha => ht (fun h => ha h.1))
 by_cases hb : 0 ≤ s.b ∧ s.b ≤ 109572
 ·
  have hd : s.days := ⟨ha, hb⟩
  have h80 : (¬ s.fit) → Ev (fun _ : Nat => some (80 : Int)) s.chk := fun h => by rw [chk_unfit hd h]; exact Ev.now _
  refine Ev.congr (fun k => by rw [decide_eq_true hb]) ?_
  refine Ev.step (fun k => by rw [Bool.not_true, tenorref8_Check.j0, if_neg (by decide), rin, rin, rin, rin, Option.bind_some, Option.bind_some, Option.bind_some, Option.bind_some]) ?_
  have hj1t : (¬ s.fit) → Ev (fun k => tenorref8_Check.j1 k true s.a s.b s.n s.u s.st s.ro s.cv s.lag s.we s.l) s.chk := fun h =>
   Ev.step (fun k => by rw [tenorref8_Check.j1, if_pos rfl]) (h80 h)
  refine ev_ite (fun c1 => hj1t (fun h => by have := h.1; omega)) (fun c1 => ?_)
  refine ev_dec (fun c2 => ?_) (fun c2 => hj1t (fun h => c2 h.2.1))
  refine ev_dec (fun c3 => ?_) (fun c3 => hj1t (fun h => c3 h.2.2.1))
  refine ev_dec (fun c4 => ?_) (fun c4 => hj1t (fun h => c4 h.2.2.2.1))
  by_cases c5 : 0 ≤ s.ro ∧ s.ro ≤ 2
  ·
   refine Ev.congr (fun k => by rw [decide_eq_true c5, Bool.not_true]) ?_
   refine Ev.step (fun k => by rw [tenorref8_Check.j1, if_neg (by decide), rin, rin, Option.bind_some, Option.bind_some]) ?_
   have hend : (s.ro = 0 ∨ 3 ≤ s.u) → Ev (fun k => if decide (0 ≤ s.cv ∧ s.cv ≤ 4) = true then if decide (0 ≤ s.lag ∧ s.lag ≤ 30) = true then (tenorref6_Check.f k s.we s.l).bind fun bt773 => some bt773.1 else some 80 else some 80) s.chk := fun c6 =>
    ev_dec (fun e1 => ev_dec (fun e2 => by
     rw [chk_fit hd ⟨by omega, c2, c3, c4, c5, c6, e1, e2⟩]
     exact Ev.bind (R.Check _ _) (Ev.now _)) (fun e2 => h80 (fun h => e2 h.2.2.2.2.2.2.2))) (fun e1 => h80 (fun h => e1 h.2.2.2.2.2.2.1))
   refine ev_ite (fun c6 => hend (.inl c6)) (fun c6 => ev_ite (fun c7 => h80 (fun h => ?_)) (fun c7 => hend (.inr (by omega))))
   have h6 := h.2.2.2.2.2.1; omega
  ·
   exact Ev.congr (fun k => by rw [decide_eq_false c5]; rfl) (hj1t (fun h => c5 h.2.2.2.2.1))
 ·
  exact Ev.congr (fun k => by rw [decide_eq_false hb]; rfl) (ht (fun h => hb h.2))
end Go.Proofs.Ytoncignjcgjhhaa.S
namespace Go.Proofs.Ytoncignjcgjhhaa.S
open Go.RowKit Go.Proofs.YtoncignjcgjhhaaW.PrintWords Go.Proofs.YtoncignjcgjhhaaW.PrintLast Go.Proofs.YtoncignjcgjhhaaW.PrintMore
open Go.Proofs.Ytoncignjcgjhhaa.Q
open Go.Proofs.Ytoncignjcgjhhaa.L (w64 td tm tm0)
theorem rpoint_j1 (s : Sp) (x m : Int) (hx : 0 ≤ x ∧ x ≤ 109572) (hro : 0 ≤ s.ro ∧ s.ro ≤ 2) : Ev (fun q => tenorref8_point.j1 q x m s.a s.b s.n s.u s.st s.ro s.cv s.lag s.we s.l) (told (if M.monthsOk x m then some (rolled s.ro x m) else none)) := by
 have hc := R.Civil x
 rw [if_pos hx] at hc
 refine Ev.step (fun q => by rw [tenorref8_point.j1]) (Ev.bind hc (Ev.bind (R.Month5 x m hx) ?_))
 unfold R.mon5
 by_cases h : M.monthsOk x m
 ·
  rw [if_pos h, if_pos h]
  have hrng := M.mAt_rng h
  refine Ev.congr (fun q => if_pos rfl) ?_
  unfold rolled
  by_cases r0 : s.ro = 0
  ·
   rw [if_pos r0]
   have hm := R.Months5 x m hx
   unfold M.months at hm
   rw [if_pos hx, if_pos h] at hm
   exact Ev.congr (fun q => if_pos r0) (Ev.bind hm (Ev.now _))
  ·
   rw [if_neg r0]
   refine Ev.congr (fun q => if_neg r0) ?_
   by_cases r1 : s.ro = 1
   ·
    rw [if_pos r1]
    have hl := R.Length (M.mAt x m / 12) (M.mAt x m % 12 + 1)
    rw [if_pos hrng] at hl
    have ho := R.Of (M.mAt x m / 12) (M.mAt x m % 12 + 1) (M.mlen (M.mAt x m / 12) (M.mAt x m % 12 + 1))
    rw [if_pos (mlenDate hrng)] at ho
    exact Ev.congr (fun q => if_pos r1) (Ev.bind hl (Ev.bind ho (Ev.now _)))
   ·
    rw [if_neg r1]
    exact Ev.congr (fun q => if_neg r1) (Ev.bind (R.Third5 _ _ hrng) (Ev.now _))
 ·
  rw [if_neg h, if_neg h]
  exact Ev.congr (fun q => if_neg (by decide)) (Ev.now _)
theorem told_day (n : Int) : Ev (fun _ : Nat => if decide (0 ≤ n ∧ n ≤ 109572) = true then some (n, true) else some (0, false)) (told (asDay n)) := by
 unfold asDay
 refine Ev.congr (fun q => ?_) (Ev.now _)
 by_cases h : 0 ≤ n ∧ n ≤ 109572
 ·
  rw [if_pos h, decide_eq_true h, if_pos rfl]; rfl
 ·
  rw [if_neg h, decide_eq_false h, if_neg (by decide)]; rfl
theorem rPoint (s : Sp) (x k : Int) (hf : s.fit) : Ev (fun q => tenorref8_point.f q s.a s.b s.n s.u s.st s.ro s.cv s.lag s.we s.l x k) (told (if 0 ≤ x ∧ x ≤ 109572 then s.pt x k else none)) := by
 obtain ⟨_, hn, hu, _, hro, _⟩ := hf
 have ht : Ev (fun q => tenorref8_point.j0 q x k true s.a s.b s.n s.u s.st s.ro s.cv s.lag s.we s.l) (told none) :=
  Ev.step (f := fun _ => some (told none)) (fun q => by rw [tenorref8_point.j0, if_pos rfl]; rfl) (Ev.now _)
 refine Ev.congr (fun q => by unfold tenorref8_point.f; rw [rin, Option.bind_some]) (ev_dec (fun hx => ?_) (fun hx => by rw [if_neg hx]; exact ht))
 rw [if_pos hx]
 unfold Sp.pt
 refine ev_ite (fun c1 => by rw [if_pos (.inl c1)]; exact ht) (fun c1 => ?_)
 by_cases c2 : k > 200000
 ·
  rw [if_pos (.inr c2)]
  exact Ev.congr (fun q => by rw [decide_eq_true c2]) ht
 ·
  rw [if_neg (show ¬ (k < -200000 ∨ 200000 < k) by omega)]
  have hm := mul_rng (c := 200000) (by omega) (show -200000 ≤ k by omega) (by omega) hn.1 hn.2
  have e1 : wrap64 (k * s.n) = k * s.n := w64 (by omega) (by omega)
  have e12 : wrap64 (12 * (k * s.n)) = 12 * (k * s.n) := w64 (by omega) (by omega)
  have e7a : wrap64 (7 * k) = 7 * k := w64 (by omega) (by omega)
  have e7 : wrap64 (7 * k * s.n) = 7 * (k * s.n) := by rw [Int.mul_assoc, w64 (by omega) (by omega)]
  have ex7 : wrap64 (x + 7 * (k * s.n)) = x + 7 * (k * s.n) := w64 (by omega) (by omega)
  have ex1 : wrap64 (x + k * s.n) = x + k * s.n := w64 (by omega) (by omega)
  refine Ev.congr (fun q => by rw [decide_eq_false c2]) (Ev.step (fun q => by rw [tenorref8_point.j0, if_neg (by decide), e1, e12, e7a, e7, ex7, ex1, rin, rin, Option.bind_some, Option.bind_some]) ?_)
  refine ev_ite (fun u2 => ev_ite (fun u3 => by rw [if_pos u3]; exact told_day _) (fun u3 => by rw [if_neg u3, if_pos (show s.u = 1 by omega)]; exact told_day _)) (fun u2 => ?_)
  rw [if_neg (show ¬ s.u = 2 by omega), if_neg (show ¬ s.u = 1 by omega)]
  unfold Sp.mons
  refine ev_ite (fun u4 => by rw [if_pos u4]; exact rpoint_j1 s x _ hx hro) (fun u4 => by rw [if_neg u4]; exact rpoint_j1 s x _ hx hro)
end Go.Proofs.Ytoncignjcgjhhaa.S
