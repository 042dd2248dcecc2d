/- Contracts and facts of functions of the program (calendar, dates and their documents), joined in one text by a program of this session. No condition but what each theorem states. -/
import Derived.Test.YtoncignjcgjhhaaLGA
import Derived.Test.YtoncignjcgjhhaaLGJ
import Derived.Test.YtoncignjcgjhhaaLGL
import Derived.Test.YtoncignjcgjhhaaLGI
import Derived.Test.YtoncignjcgjhhaaLGC
import Derived.Test.YtoncignjcgjhhaaLGD
import Derived.Test.YtoncignjcgjhhaaLGG
set_option linter.unusedVariables false
set_option linter.unusedSimpArgs false
namespace Go.Proofs.Ytoncignjcgjhhaa.Q
open Go.RowKit Go.Proofs.YtoncignjcgjhhaaW.PrintWords Go.Proofs.YtoncignjcgjhhaaW.PrintLast Go.Proofs.YtoncignjcgjhhaaW.PrintMore
attribute [local go_sem] max2_int min2_int max_two min_two max_three min_three max_four min_four   -- for this text's walks alone
def tenorref6_day.j0 : Nat → Int → Bool → Int → List (S63) → Int → Int → Int → Int → Int → Int → Int → Int → Int → Option (Int × Bool)
  | 0, _, _, _, _, _, _, _, _, _, _, _, _, _ => none
  | k + 1, x2, x22, x209000, x209001, x210000, x210001, x210002, x210003, x210004, x210005, x210006, x210007, x210008 => if x22 = true then (some (0, false)) else (if x210000 = 1 then ((tenorref5_Of.f k x2 x210001 x210002).bind fun bt210 => (if bt210.2 = 0 then ((tenorref6_moved.f k x209000 x209001 bt210.1 x210008).bind fun t212 => (some (t212, true))) else (some (0, false)))) else (if x210000 = 2 then ((tenorref6_nth.f k x2 x210001 x210004 x210003).bind fun t213 => ((tenorref6_moved.f k x209000 x209001 t213 x210008).bind fun t214 => (some (t214, true)))) else (if x210000 = 3 then ((tenorref5_Easter.f x2).bind fun bt215 => ((tenorref6_moved.f k x209000 x209001 (wrap64 (bt215.1 + x210005)) x210008).bind fun t217 => (some (t217, true)))) else ((tenorref6_moved.f k x209000 x209001 0 x210008).bind fun t218 => (some (t218, true))))))
def tenorref6_day.f (k : Nat) (a0_0 : Int) (l0_1 : List (S63)) (a1_0 a1_1 a1_2 a1_3 a1_4 a1_5 a1_6 a1_7 a1_8 a2 : Int) : Option (Int × Bool) := if a2 < a1_6 then (tenorref6_day.j0 k a2 true a0_0 l0_1 a1_0 a1_1 a1_2 a1_3 a1_4 a1_5 a1_6 a1_7 a1_8) else (tenorref6_day.j0 k a2 (decide (a2 > a1_7)) a0_0 l0_1 a1_0 a1_1 a1_2 a1_3 a1_4 a1_5 a1_6 a1_7 a1_8)
set_option maxHeartbeats 8000000 in
set_option maxRecDepth 100000 in
theorem tenorref6_day.calls (k : Nat) (a0_0 : Int) (A0_1 : Option Addr) (c0_1 : Nat) (l0_1 : List (S63)) (a1_0 a1_1 a1_2 a1_3 a1_4 a1_5 a1_6 a1_7 a1_8 a2 r1 : Int) (r2 : Bool) (w : World) (hr0_1 : Kd.C k63 w A0_1 l0_1.length l0_1) (hc0_1 : l0_1.length ≤ c0_1) (h : tenorref6_day.f k a0_0 l0_1 a1_0 a1_1 a1_2 a1_3 a1_4 a1_5 a1_6 a1_7 a1_8 a2 = some (r1, r2)) :
  Calls Try.prog 110 #[.agg #[.int .i64 a0_0, .slice A0_1 l0_1.length c0_1], .agg #[.int .i64 a1_0, .int .i64 a1_1, .int .i64 a1_2, .int .i64 a1_3, .int .i64 a1_4, .int .i64 a1_5, .int .i64 a1_6, .int .i64 a1_7, .int .i64 a1_8], .int .i64 a2] w fun e w' => e = .returned (.tuple #[.int .i64 r1, .bool r2]) ∧ Below w.heap.size w w' := by
 have hu24 := Try.underlying24;have hu63 := Try.underlying63;have HR0_1 := Aside0.mk hr0_1;have HC0_1 := Aside0.mk hc0_1;clear hr0_1 hc0_1
 have HB := Aside0.mk (Below.refl w.heap.size w)
 have H : (if a2 < a1_6 then (tenorref6_day.j0 k a2 true a0_0 l0_1 a1_0 a1_1 a1_2 a1_3 a1_4 a1_5 a1_6 a1_7 a1_8) else (tenorref6_day.j0 k a2 (decide (a2 > a1_7)) a0_0 l0_1 a1_0 a1_1 a1_2 a1_3 a1_4 a1_5 a1_6 a1_7 a1_8)) = some (r1, r2) := h
 clear h;have HC4 := Aside0.mk H;clear H
 go_enter Try.func110, Try.ntmps110
 go_upto_region 1 with (first | ((with_reducible refine gate_dst (N := 3) rfl ?_); refine box_event ?hg (N := 3) ?hd (cs := #[.int .i64 a0_0, .slice A0_1 l0_1.length c0_1]) (t := 24) ?hr ?_; (case hd => rfl); (case hg => rfl); (case hr => first | (go_simp; done) | (go_simp; rfl)); intro gb208 hg w5 hbox hb; have BK208 := Aside0.mk (hbox); have GW208 := bG hg; have GE208 := bG hg; replace HB := bS hb; clear hb hbox hg) | ((with_reducible refine gate_dst (N := 4) rfl ?_); refine box_event ?hg (N := 4) ?hd (cs := #[.int .i64 a1_0, .int .i64 a1_1, .int .i64 a1_2, .int .i64 a1_3, .int .i64 a1_4, .int .i64 a1_5, .int .i64 a1_6, .int .i64 a1_7, .int .i64 a1_8]) (t := 63) ?hr ?_; (case hd => rfl); (case hg => rfl); (case hr => first | (go_simp; done) | (go_simp; rfl)); intro gb209 hg w6 hbox hb; have BK209 := Aside0.mk (hbox); have GW209 := bG hg; have GE209 := bG hg; replace HB := bS hb; have NB208_209 := Aside0.mk ((by rw [hg]; exact Nat.ne_of_lt (blk_lt (g := gb208) (o := .cells #[.int .i64 a0_0, .slice A0_1 l0_1.length c0_1] 24 (0, 0)) (bk BK208)) : gb208 ≠ gb209)); have NB209_208 := Aside0.mk ((by rw [hg]; exact Nat.ne_of_gt (blk_lt (g := gb208) (o := .cells #[.int .i64 a0_0, .slice A0_1 l0_1.length c0_1] 24 (0, 0)) (bk BK208)) : gb209 ≠ gb208)); replace BK208 := bK BK208 hb; clear hb hbox hg))
 (try simp only [Act.put, List.setIfInBounds_toArray, List.set_cons_zero, List.set_cons_succ])
 go_cut [22] (fun v22 wc => ∃ (kq : Nat) (x22_3 : Bool), v22 = .bool x22_3 ∧ Aside0 (tenorref6_day.j0 kq a2 x22_3 a0_0 l0_1 a1_0 a1_1 a1_2 a1_3 a1_4 a1_5 a1_6 a1_7 a1_8 = some (r1, r2)) ∧ Aside0 (kq ≤ k) ∧ Aside0 (wc.heap[gb208]? = some (.cells #[.int .i64 a0_0, (.slice A0_1 l0_1.length c0_1)] 24 (0, 0))) ∧ Aside0 (wc.heap[gb209]? = some (.cells #[.int .i64 a1_0, .int .i64 a1_1, .int .i64 a1_2, .int .i64 a1_3, .int .i64 a1_4, .int .i64 a1_5, .int .i64 a1_6, .int .i64 a1_7, .int .i64 a1_8] 63 (0, 0))) ∧ Aside0 (Below w.heap.size w wc))
 case first =>
  have H := HC4.out;clear HC4
  by_cases c7 : a2 < a1_6
  ·
   rw [if_pos c7] at H
   have c7b0 : decide (a2 < a1_6) = true := decide_eq_true c7
   clear c7
   (first | rw [c7b0] | (simp only [i64_w, i32_w]; rw [c7b0]) | skip)
   have H' := Aside0.mk H;clear H;have hnb8 := NB209_208.out;have hnc8 := NB208_209.out
   obtain ⟨_,_,_,_,_,_,_,_,_,_,_,_,_,_,_,_,_,_⟩ := blk9 BK209
   go_wp2
   go_meet
   case rel => exact ⟨_, (true), eS, H', ⟨eN⟩, ⟨(bk BK208)⟩, ⟨(bk BK209)⟩, ⟨bB⟩⟩
  ·
   rw [if_neg c7] at H
   have c7b0 : decide (a2 < a1_6) = false := decide_eq_false c7
   clear c7
   (first | rw [c7b0] | (simp only [i64_w, i32_w]; rw [c7b0]) | skip)
   have H' := Aside0.mk H;clear H;have hnb10 := NB209_208.out;have hnc10 := NB208_209.out
   obtain ⟨_,_,_,_,_,_,_,_,_,_,_,_,_,_,_,_,_,_⟩ := blk9 BK209
   go_wp2
   go_meet
   case rel => exact ⟨_, (decide (a2 > a1_7)), eS, H', ⟨eN⟩, ⟨(bk BK208)⟩, ⟨(bk BK209)⟩, ⟨bB⟩⟩
 case rest =>
  clear HC4
  obtain ⟨kq, x22_3, rfl, HA, HJ3, BK208, BK209, HB⟩ := hcut
  cases kq with
  | zero => exact absurd HA.out (by simp [tenorref6_day.j0])
  | succ kj3 =>
   have H := HA.out;clear HA
   simp only [tenorref6_day.j0] at H
   by_cases c12 : x22_3 = true
   ·
    subst c12
    have H1 : (some (0, false)) = some (r1, r2) := by rw [if_pos rfl] at H; exact H
    clear H;have H := H1;clear H1
    simp only [Option.some.injEq, Prod.mk.injEq] at H
    obtain ⟨rfl, rfl⟩ := H
    go_wp2
    go_ret2
    exact ⟨eW, bB⟩
   ·
    replace c12 := Bool.eq_false_iff.mpr c12;subst c12
    have H1 : (if a1_0 = 1 then ((tenorref5_Of.f kj3 a2 a1_1 a1_2).bind fun bt210 => (if bt210.2 = 0 then ((tenorref6_moved.f kj3 a0_0 l0_1 bt210.1 a1_8).bind fun t212 => (some (t212, true))) else (some (0, false)))) else (if a1_0 = 2 then ((tenorref6_nth.f kj3 a2 a1_1 a1_4 a1_3).bind fun t213 => ((tenorref6_moved.f kj3 a0_0 l0_1 t213 a1_8).bind fun t214 => (some (t214, true)))) else (if a1_0 = 3 then ((tenorref5_Easter.f a2).bind fun bt215 => ((tenorref6_moved.f kj3 a0_0 l0_1 (wrap64 (bt215.1 + a1_5)) a1_8).bind fun t217 => (some (t217, true)))) else ((tenorref6_moved.f kj3 a0_0 l0_1 0 a1_8).bind fun t218 => (some (t218, true)))))) = some (r1, r2) := by rw [if_neg (show ¬ (false = true) by decide)] at H; exact H
    clear H;have H := H1;clear H1
    by_cases c13 : a1_0 = 1
    ·
     rw [if_pos c13] at H
     have c13b0 : (a1_0 == 1) = true := beq_iff_eq.mpr c13
     have c13b1 : (a1_0 != 1) = false := bne_eq_false_iff_eq.mpr c13
     clear c13;replace H := Option.bind_eq_some_iff.mp H
     obtain ⟨⟨t210, t211⟩, A140, H⟩ := H
     replace H : (if t211 = 0 then ((tenorref6_moved.f kj3 a0_0 l0_1 t210 a1_8).bind fun t212 => (some (t212, true))) else (some (0, false))) = some (r1, r2) := H
     have A14 := Aside0.mk A140;clear A140
     by_cases c15 : t211 = 0
     ·
      rw [if_pos c15] at H
      have c15b0 : (t211 == 0) = true := beq_iff_eq.mpr c15
      have c15b1 : (t211 != 0) = false := bne_eq_false_iff_eq.mpr c15
      clear c15;replace H := Option.bind_eq_some_iff.mp H
      obtain ⟨t212, A160, H⟩ := H
      replace H : (some (t212, true)) = some (r1, r2) := H
      have A16 := Aside0.mk A160;clear A160
      simp only [Option.some.injEq, Prod.mk.injEq] at H
      obtain ⟨rfl, rfl⟩ := H
      have hnb17 := NB209_208.out;have hnc17 := NB208_209.out
      obtain ⟨_,_,_,_,_,_,_,_,_,_,_,_,_,_,_,_,_,_⟩ := blk9 BK209
      go_wp2_with (first | ((with_reducible refine gG 97 ?_); refine goA (some 33) Try.func97 #[.int .i64 a2, .int .i64 a1_1, .int .i64 a1_2] ?_; (with_reducible refine (tenorref5_Of.calls kj3 a2 a1_1 a1_2 t210 t211 _ A14.out).mono ?_); rintro e w' ⟨rfl, ⟨nd, rfl⟩⟩; refine ⟨_, rfl, ?_⟩; obtain ⟨_,_,_,_⟩ := blk2 BK208) | ((with_reducible refine gG 135 ?_); refine goA (some 64) Try.func135 #[.agg #[.int .i64 a0_0, .slice A0_1 l0_1.length c0_1], .int .i64 t210, .int .i64 a1_8] ?_; (with_reducible refine (tenorref6_moved.calls kj3 a0_0 _ _ l0_1 t210 a1_8 t212 _ ?side1 ?side2 A16.out).mono ?_); (case side1 => repeat (first | exact (Kd.C_below HR0_1.out bB) | (with_reducible refine Kd.C_alloc ?_ _) | (with_reducible refine Kd.C_drewN ?_ _) | (with_reducible refine Kd.C_drew ?_))); (case side2 => exact HC0_1.out); rintro e w20 ⟨rfl, hb⟩; refine ⟨_, rfl, ?_⟩; replace BK208 := bK BK208 hb; replace BK209 := bK BK209 hb; replace HB := bS hb; (try clear hb); (try clear hb2); (try clear hk); (try clear hi)))
      go_ret2
      exact ⟨eW, bB⟩
     ·
      rw [if_neg c15] at H
      have c15b0 : (t211 == 0) = false := beq_eq_false_iff_ne.mpr c15
      have c15b1 : (t211 != 0) = true := bne_iff_ne.mpr c15
      simp only [Option.some.injEq, Prod.mk.injEq] at H
      obtain ⟨rfl, rfl⟩ := H
      have hnb21 := NB209_208.out;have hnc21 := NB208_209.out
      obtain ⟨_,_,_,_,_,_,_,_,_,_,_,_,_,_,_,_,_,_⟩ := blk9 BK209
      go_wp2_with (first | ((with_reducible refine gG 97 ?_); refine goA (some 33) Try.func97 #[.int .i64 a2, .int .i64 a1_1, .int .i64 a1_2] ?_; (with_reducible refine (tenorref5_Of.calls kj3 a2 a1_1 a1_2 t210 t211 _ A14.out).mono ?_); rintro e w' ⟨rfl, ⟨nd, rfl⟩⟩; refine ⟨_, rfl, ?_⟩))
      go_ret2
      exact ⟨eW, bB⟩
    ·
     rw [if_neg c13] at H
     have c13b0 : (a1_0 == 1) = false := beq_eq_false_iff_ne.mpr c13
     have c13b1 : (a1_0 != 1) = true := bne_iff_ne.mpr c13
     by_cases c23 : a1_0 = 2
     ·
      rw [if_pos c23] at H
      have c23b0 : (a1_0 == 2) = true := beq_iff_eq.mpr c23
      have c23b1 : (a1_0 != 2) = false := bne_eq_false_iff_eq.mpr c23
      clear c23;replace H := Option.bind_eq_some_iff.mp H
      obtain ⟨t213, A240, H⟩ := H
      replace H : ((tenorref6_moved.f kj3 a0_0 l0_1 t213 a1_8).bind fun t214 => (some (t214, true))) = some (r1, r2) := H
      have A24 := Aside0.mk A240;clear A240;replace H := Option.bind_eq_some_iff.mp H
      obtain ⟨t214, A250, H⟩ := H
      replace H : (some (t214, true)) = some (r1, r2) := H
      have A25 := Aside0.mk A250;clear A250
      simp only [Option.some.injEq, Prod.mk.injEq] at H
      obtain ⟨rfl, rfl⟩ := H
      have hnb26 := NB209_208.out;have hnc26 := NB208_209.out
      obtain ⟨_,_,_,_,_,_,_,_,_,_,_,_,_,_,_,_,_,_⟩ := blk9 BK209
      go_wp2_with (first | ((with_reducible refine gG 133 ?_); refine goA (some 48) Try.func133 #[.int .i64 a2, .int .i64 a1_1, .int .i64 a1_4, .int .i64 a1_3] ?_; (with_reducible refine (tenorref6_nth.calls kj3 a2 a1_1 a1_4 a1_3 t213 _ A24.out).mono ?_); rintro e w' ⟨rfl, ⟨nd, rfl⟩⟩; refine ⟨_, rfl, ?_⟩; obtain ⟨_,_,_,_⟩ := blk2 BK208) | ((with_reducible refine gG 135 ?_); refine goA (some 64) Try.func135 #[.agg #[.int .i64 a0_0, .slice A0_1 l0_1.length c0_1], .int .i64 t213, .int .i64 a1_8] ?_; (with_reducible refine (tenorref6_moved.calls kj3 a0_0 _ _ l0_1 t213 a1_8 t214 _ ?side1 ?side2 A25.out).mono ?_); (case side1 => repeat (first | exact (Kd.C_below HR0_1.out bB) | (with_reducible refine Kd.C_alloc ?_ _) | (with_reducible refine Kd.C_drewN ?_ _) | (with_reducible refine Kd.C_drew ?_))); (case side2 => exact HC0_1.out); rintro e w29 ⟨rfl, hb⟩; refine ⟨_, rfl, ?_⟩; replace BK208 := bK BK208 hb; replace BK209 := bK BK209 hb; replace HB := bS hb; (try clear hb); (try clear hb2); (try clear hk); (try clear hi)))
      go_ret2
      exact ⟨eW, bB⟩
     ·
      rw [if_neg c23] at H
      have c23b0 : (a1_0 == 2) = false := beq_eq_false_iff_ne.mpr c23
      have c23b1 : (a1_0 != 2) = true := bne_iff_ne.mpr c23
      by_cases c30 : a1_0 = 3
      ·
       rw [if_pos c30] at H
       have c30b0 : (a1_0 == 3) = true := beq_iff_eq.mpr c30
       have c30b1 : (a1_0 != 3) = false := bne_eq_false_iff_eq.mpr c30
       clear c30;replace H := Option.bind_eq_some_iff.mp H
       obtain ⟨⟨t215, t216⟩, A310, H⟩ := H
       replace H : ((tenorref6_moved.f kj3 a0_0 l0_1 (wrap64 (t215 + a1_5)) a1_8).bind fun t217 => (some (t217, true))) = some (r1, r2) := H
       have A31 := Aside0.mk A310;clear A310;replace H := Option.bind_eq_some_iff.mp H
       obtain ⟨t217, A320, H⟩ := H
       replace H : (some (t217, true)) = some (r1, r2) := H
       have A32 := Aside0.mk A320;clear A320
       simp only [Option.some.injEq, Prod.mk.injEq] at H
       obtain ⟨rfl, rfl⟩ := H
       have hnb33 := NB209_208.out;have hnc33 := NB208_209.out
       obtain ⟨_,_,_,_,_,_,_,_,_,_,_,_,_,_,_,_,_,_⟩ := blk9 BK209
       go_wp2_with (first | ((with_reducible refine gG 134 ?_); refine goA (some 53) Try.func134 #[.int .i64 a2] ?_; (with_reducible refine (tenorref5_Easter.calls a2 t215 t216 _ A31.out).mono ?_); rintro e w' ⟨rfl, ⟨nd, rfl⟩⟩; refine ⟨_, rfl, ?_⟩; obtain ⟨_,_,_,_⟩ := blk2 BK208) | ((with_reducible refine gG 135 ?_); refine goA (some 64) Try.func135 #[.agg #[.int .i64 a0_0, .slice A0_1 l0_1.length c0_1], .int .i64 (wrap64 (t215 + a1_5)), .int .i64 a1_8] ?_; (with_reducible refine (tenorref6_moved.calls kj3 a0_0 _ _ l0_1 (wrap64 (t215 + a1_5)) a1_8 t217 _ ?side1 ?side2 A32.out).mono ?_); (case side1 => repeat (first | exact (Kd.C_below HR0_1.out bB) | (with_reducible refine Kd.C_alloc ?_ _) | (with_reducible refine Kd.C_drewN ?_ _) | (with_reducible refine Kd.C_drew ?_))); (case side2 => exact HC0_1.out); rintro e w36 ⟨rfl, hb⟩; refine ⟨_, rfl, ?_⟩; replace BK208 := bK BK208 hb; replace BK209 := bK BK209 hb; replace HB := bS hb; (try clear hb); (try clear hb2); (try clear hk); (try clear hi)))
       go_ret2
       exact ⟨eW, bB⟩
      ·
       rw [if_neg c30] at H
       have c30b0 : (a1_0 == 3) = false := beq_eq_false_iff_ne.mpr c30
       have c30b1 : (a1_0 != 3) = true := bne_iff_ne.mpr c30
       replace H := Option.bind_eq_some_iff.mp H
       obtain ⟨t218, A370, H⟩ := H
       replace H : (some (t218, true)) = some (r1, r2) := H
       have A37 := Aside0.mk A370;clear A370
       simp only [Option.some.injEq, Prod.mk.injEq] at H
       obtain ⟨rfl, rfl⟩ := H
       have hnb38 := NB209_208.out;have hnc38 := NB208_209.out
       obtain ⟨_,_,_,_,_,_,_,_,_,_,_,_,_,_,_,_,_,_⟩ := blk9 BK209
       obtain ⟨_,_,_,_⟩ := blk2 BK208
       go_wp2_with (first | ((with_reducible refine gG 135 ?_); refine goA (some 64) Try.func135 #[.agg #[.int .i64 a0_0, .slice A0_1 l0_1.length c0_1], .int .i64 0, .int .i64 a1_8] ?_; (with_reducible refine (tenorref6_moved.calls kj3 a0_0 _ _ l0_1 0 a1_8 t218 _ ?side1 ?side2 A37.out).mono ?_); (case side1 => exact sC HR0_1); (case side2 => exact HC0_1.out); rintro e w41 ⟨rfl, hb⟩; refine ⟨_, rfl, ?_⟩; replace BK208 := bK BK208 hb; replace BK209 := bK BK209 hb; replace HB := bS hb; (try clear hb); (try clear hb2); (try clear hk); (try clear hi)))
       go_ret2
       exact ⟨eW, bB⟩
end Go.Proofs.Ytoncignjcgjhhaa.Q
namespace Go.Proofs.Ytoncignjcgjhhaa.Q
open Go.RowKit Go.Proofs.YtoncignjcgjhhaaW.PrintWords Go.Proofs.YtoncignjcgjhhaaW.PrintLast Go.Proofs.YtoncignjcgjhhaaW.PrintMore
attribute [local go_sem] max2_int min2_int max_two min_two max_three min_three max_four min_four   -- for this text's walks alone
mutual
def tenorref6_holiday.l0 : Nat → Int → Int → Int → List (S63) → Int → Int → Int → Option (Bool)
  | 0, _, _, _, _, _, _, _ => none
  | k + 1, x1, x7, x220000, x220001, x225000, x225001, x225002 => if x7 < (x220001.length : Int) then (if 0 ≤ x7 then (if ((rd_T63 x220001 x7).f0) = 4 then (if ((rd_T63 x220001 x7).f2) = x1 then (some true) else (tenorref6_holiday.l0 k x1 (wrap64 (x7 + 1)) x220000 x220001 x225000 x225001 x225002)) else (tenorref6_holiday.l1 k x1 x7 (wrap64 (x225000 - 1)) x220000 x220001 x225000 x225001 x225002 ((rd_T63 x220001 x7).f0) ((rd_T63 x220001 x7).f1) ((rd_T63 x220001 x7).f2) ((rd_T63 x220001 x7).f3) ((rd_T63 x220001 x7).f4) ((rd_T63 x220001 x7).f5) ((rd_T63 x220001 x7).f6) ((rd_T63 x220001 x7).f7) ((rd_T63 x220001 x7).f8))) else (none)) else (some false)
def tenorref6_holiday.l1 : Nat → Int → Int → Int → Int → List (S63) → Int → Int → Int → Int → Int → Int → Int → Int → Int → Int → Int → Int → Option (Bool)
  | 0, _, _, _, _, _, _, _, _, _, _, _, _, _, _, _, _, _ => none
  | k + 1, x1, x7, x9, x220000, x220001, x225000, x225001, x225002, x227000, x227001, x227002, x227003, x227004, x227005, x227006, x227007, x227008 => if x9 ≤ (wrap64 (x225000 + 1)) then ((tenorref6_day.f k x220000 x220001 x227000 x227001 x227002 x227003 x227004 x227005 x227006 x227007 x227008 x9).bind fun bt227 => (if bt227.2 = true then (if bt227.1 = x1 then (some true) else (tenorref6_holiday.l1 k x1 x7 (wrap64 (x9 + 1)) x220000 x220001 x225000 x225001 x225002 x227000 x227001 x227002 x227003 x227004 x227005 x227006 x227007 x227008)) else (tenorref6_holiday.l1 k x1 x7 (wrap64 (x9 + 1)) x220000 x220001 x225000 x225001 x225002 x227000 x227001 x227002 x227003 x227004 x227005 x227006 x227007 x227008))) else (tenorref6_holiday.l0 k x1 (wrap64 (x7 + 1)) x220000 x220001 x225000 x225001 x225002)
end
def tenorref6_holiday.f (k : Nat) (a0_0 : Int) (l0_1 : List (S63)) (a1 : Int) : Option (Bool) := (tenorref5_Civil.f k a1).bind fun bt220 => (tenorref6_holiday.l0 k a1 0 a0_0 l0_1 bt220.1 bt220.2.1 bt220.2.2.1)
set_option maxHeartbeats 8000000 in
set_option maxRecDepth 100000 in
theorem tenorref6_holiday.calls (k : Nat) (a0_0 : Int) (A0_1 : Option Addr) (c0_1 : Nat) (l0_1 : List (S63)) (a1 : Int) (r : Bool) (w : World) (hr0_1 : Kd.C k63 w A0_1 l0_1.length l0_1) (hc0_1 : l0_1.length ≤ c0_1) (h : tenorref6_holiday.f k a0_0 l0_1 a1 = some r) :
  Calls Try.prog 76 #[.agg #[.int .i64 a0_0, .slice A0_1 l0_1.length c0_1], .int .i64 a1] w fun e w' => e = .returned (.bool r) ∧ Below w.heap.size w w' := by
 have hu24 := Try.underlying24;have hu115 := Try.underlying115;have hu63 := Try.underlying63;have HR0_1 := Aside0.mk hr0_1;have HC0_1 := Aside0.mk hc0_1;clear hr0_1 hc0_1
 have HB := Aside0.mk (Below.refl w.heap.size w)
 have H : ((tenorref5_Civil.f k a1).bind fun bt220 => (tenorref6_holiday.l0 k a1 0 a0_0 l0_1 bt220.1 bt220.2.1 bt220.2.2.1)) = some r := h
 clear h;replace H := Option.bind_eq_some_iff.mp H
 obtain ⟨⟨t220, t221, t222, t223⟩, A30, H⟩ := H
 replace H : (tenorref6_holiday.l0 k a1 0 a0_0 l0_1 t220 t221 t222) = some r := H
 have A3 := Aside0.mk A30;clear A30;have H' := Aside0.mk H;clear H
 go_enter Try.func76, Try.ntmps76
 go_wp2_with (first | ((with_reducible refine gate_dst (N := 2) rfl ?_); refine box_event ?hg (N := 2) ?hd (cs := #[.int .i64 a0_0, .slice A0_1 l0_1.length c0_1]) (t := 24) ?hr ?_; (case hd => rfl); (case hg => rfl); (case hr => first | (go_simp; done) | (go_simp; rfl)); intro gb219 hg w4 hbox hb; have BK219 := Aside0.mk (hbox); have GW219 := bG hg; have GE219 := bG hg; replace HB := bS hb; clear hb hbox hg) | ((with_reducible refine gG 96 ?_); refine goA (some 14) Try.func96 #[.int .i64 a1] ?_; (with_reducible refine (tenorref5_Civil.calls k a1 t220 t221 t222 t223 _ A3.out).mono ?_); rintro e w5 ⟨rfl, hb⟩; refine ⟨_, rfl, ?_⟩; replace BK219 := bK BK219 hb; replace HB := bS hb; (try clear hb); (try clear hb2); (try clear hk); (try clear hi)) | ((with_reducible refine gate_dst (N := 5) rfl ?_); refine box_event ?hg (N := 5) ?hd (cs := #[.int .i64 0, .int .i64 0, .int .i64 0]) (t := 115) ?hr ?_; (case hd => rfl); (case hg => rfl); (case hr => first | (go_simp; done) | (go_simp; rfl)); intro gb224 hg w6 hbox hb; have BK224 := Aside0.mk (hbox); have GW224 := bG hg; have GE224 := bG hg; replace HB := bS hb; have NB219_224 := Aside0.mk ((by rw [hg]; exact Nat.ne_of_lt (blk_lt (g := gb219) (o := .cells #[.int .i64 a0_0, .slice A0_1 l0_1.length c0_1] 24 (0, 0)) (bk BK219)) : gb219 ≠ gb224)); have NB224_219 := Aside0.mk ((by rw [hg]; exact Nat.ne_of_gt (blk_lt (g := gb219) (o := .cells #[.int .i64 a0_0, .slice A0_1 l0_1.length c0_1] 24 (0, 0)) (bk BK219)) : gb224 ≠ gb219)); replace BK219 := bK BK219 hb; clear hb hbox hg; have hnb7 := NB224_219.out; have hnc7 := NB219_224.out; obtain ⟨_,_,_,_,_,_⟩ := blk3 BK224))
 go_loopg [7] k (fun kq v7 w' => ∃ (x7_1 : Int), v7 = .int .i64 x7_1 ∧ Aside0 (tenorref6_holiday.l0 kq a1 x7_1 a0_0 l0_1 t220 t221 t222 = some r) ∧ Aside0 (kq ≤ k) ∧ Aside0 (w'.heap[gb219]? = some (.cells #[.int .i64 a0_0, (.slice A0_1 l0_1.length c0_1)] 24 (0, 0))) ∧ Aside0 (w'.heap[gb224]? = some (.cells #[.int .i64 t220, .int .i64 t221, .int .i64 t222] 115 (0, 0))) ∧ Aside0 (Below w.heap.size w w'))
 case atStart => exact ⟨(0), eS, H', ⟨Nat.le_refl _⟩, ⟨by (with_reducible repeat (first | refine blk_drewN ?_ _ | refine blk_drew ?_ | refine blk_alloc ?_ _)); refine blk_far ?_ NB219_224.out _; (with_reducible repeat (first | refine blk_drewN ?_ _ | refine blk_drew ?_ | refine blk_alloc ?_ _)); refine blk_far ?_ NB219_224.out _; (with_reducible repeat (first | refine blk_drewN ?_ _ | refine blk_drew ?_ | refine blk_alloc ?_ _)); refine blk_far ?_ NB219_224.out _; (with_reducible repeat (first | refine blk_drewN ?_ _ | refine blk_drew ?_ | refine blk_alloc ?_ _)); exact BK219.out⟩, ⟨by (with_reducible repeat (first | refine blk_drewN ?_ _ | refine blk_drew ?_ | refine blk_alloc ?_ _)); refine blk_put (cs := #[.int .i64 t220, .int .i64 t221, .int .i64 0]) ?_ 2 _ rfl; (with_reducible repeat (first | refine blk_drewN ?_ _ | refine blk_drew ?_ | refine blk_alloc ?_ _)); refine blk_put (cs := #[.int .i64 t220, .int .i64 0, .int .i64 0]) ?_ 1 _ rfl; (with_reducible repeat (first | refine blk_drewN ?_ _ | refine blk_drew ?_ | refine blk_alloc ?_ _)); refine blk_put (cs := #[.int .i64 0, .int .i64 0, .int .i64 0]) ?_ 0 _ rfl; (with_reducible repeat (first | refine blk_drewN ?_ _ | refine blk_drew ?_ | refine blk_alloc ?_ _)); exact BK224.out⟩, ⟨bB⟩⟩
 case round =>
  clear H'
  obtain ⟨x7_1, rfl, HA, HK1, BK219, BK224, HB⟩ := hrel
  cases gk with
  | zero => exact absurd HA.out (by simp [tenorref6_holiday.l0])
  | succ k1 =>
   have H := HA.out;clear HA
   simp only [tenorref6_holiday.l0] at H
   by_cases c9 : x7_1 < (l0_1.length : Int)
   ·
    rw [if_pos c9] at H
    have c9b0 : decide (x7_1 < (l0_1.length : Int)) = true := decide_eq_true c9
    clear c9
    by_cases c10 : 0 ≤ x7_1
    ·
     rw [if_pos c10] at H
     have c10b0 : decide (0 ≤ x7_1) = true := decide_eq_true c10
     clear c10
     by_cases c11 : ((rd_T63 l0_1 x7_1).f0) = 4
     ·
      rw [if_pos c11] at H
      have c11b0 : (((rd_T63 l0_1 x7_1).f0) == 4) = true := beq_iff_eq.mpr c11
      have c11b1 : (((rd_T63 l0_1 x7_1).f0) != 4) = false := bne_eq_false_iff_eq.mpr c11
      clear c11
      by_cases c12 : ((rd_T63 l0_1 x7_1).f2) = a1
      ·
       rw [if_pos c12] at H
       have c12b0 : (((rd_T63 l0_1 x7_1).f2) == a1) = true := beq_iff_eq.mpr c12
       have c12b1 : (((rd_T63 l0_1 x7_1).f2) != a1) = false := bne_eq_false_iff_eq.mpr c12
       clear c12
       obtain rfl := Option.some.inj H
       have hnb13 := NB219_224.out;have hnc13 := NB224_219.out
       obtain ⟨_,_,_,_⟩ := blk2 BK219
       have p225 : 0 ≤ (x7_1 : Int) := of_decide_eq_true tA
       have q225 : x7_1 < (l0_1.length : Int) := of_decide_eq_true tA
       obtain ⟨ad225, e225, hx225_0, hx225_1, hx225_2, hx225_3, hx225_4, hx225_5, hx225_6, hx225_7, hx225_8⟩ := at_T63 HR0_1.out x7_1 p225 q225
       cases e225
       replace hx225_0 := (HB.out.cell (World.block_lt_of_cell? w _ hx225_0)).trans hx225_0
       replace hx225_1 := (HB.out.cell (World.block_lt_of_cell? w _ hx225_1)).trans hx225_1
       replace hx225_2 := (HB.out.cell (World.block_lt_of_cell? w _ hx225_2)).trans hx225_2
       replace hx225_3 := (HB.out.cell (World.block_lt_of_cell? w _ hx225_3)).trans hx225_3
       replace hx225_4 := (HB.out.cell (World.block_lt_of_cell? w _ hx225_4)).trans hx225_4
       replace hx225_5 := (HB.out.cell (World.block_lt_of_cell? w _ hx225_5)).trans hx225_5
       replace hx225_6 := (HB.out.cell (World.block_lt_of_cell? w _ hx225_6)).trans hx225_6
       replace hx225_7 := (HB.out.cell (World.block_lt_of_cell? w _ hx225_7)).trans hx225_7
       replace hx225_8 := (HB.out.cell (World.block_lt_of_cell? w _ hx225_8)).trans hx225_8
       replace p225 := eq_true p225;replace q225 := eq_true q225
       go_wp2_with (first | ((with_reducible refine gate_dst (N := 8) rfl ?_); refine box_event ?hg (N := 8) ?hd (cs := #[.int .i64 0, .int .i64 0, .int .i64 0, .int .i64 0, .int .i64 0, .int .i64 0, .int .i64 0, .int .i64 0, .int .i64 0]) (t := 63) ?hr ?_; (case hd => rfl); (case hg => rfl); (case hr => first | (go_simp; done) | (go_simp; rfl)); intro gb226 hg w15 hbox hb; have BK226 := Aside0.mk (hbox); have GW226 := bG hg; have GE226 := bG hg; replace HB := bS hb; have NB219_226 := Aside0.mk ((by rw [hg]; exact Nat.ne_of_lt (blk_lt (g := gb219) (o := .cells #[.int .i64 a0_0, .slice (some ad225) l0_1.length c0_1] 24 (0, 0)) (bk BK219)) : gb219 ≠ gb226)); have NB226_219 := Aside0.mk ((by rw [hg]; exact Nat.ne_of_gt (blk_lt (g := gb219) (o := .cells #[.int .i64 a0_0, .slice (some ad225) l0_1.length c0_1] 24 (0, 0)) (bk BK219)) : gb226 ≠ gb219)); replace BK219 := bK BK219 hb; have NB224_226 := Aside0.mk ((by rw [hg]; exact Nat.ne_of_lt (blk_lt (g := gb224) (o := .cells #[.int .i64 t220, .int .i64 t221, .int .i64 t222] 115 (0, 0)) (bk BK224)) : gb224 ≠ gb226)); have NB226_224 := Aside0.mk ((by rw [hg]; exact Nat.ne_of_gt (blk_lt (g := gb224) (o := .cells #[.int .i64 t220, .int .i64 t221, .int .i64 t222] 115 (0, 0)) (bk BK224)) : gb226 ≠ gb224)); replace BK224 := bK BK224 hb; clear hb hbox hg; have hnb16 := NB226_219.out; have hnc16 := NB219_226.out; have hnb17 := NB226_224.out; have hnc17 := NB224_226.out; obtain ⟨_,_,_,_,_,_,_,_,_,_,_,_,_,_,_,_,_,_⟩ := blk9 BK226))
       go_ret
       exact ⟨eW, bB⟩
      ·
       rw [if_neg c12] at H
       have c12b0 : (((rd_T63 l0_1 x7_1).f2) == a1) = false := beq_eq_false_iff_ne.mpr c12
       have c12b1 : (((rd_T63 l0_1 x7_1).f2) != a1) = true := bne_iff_ne.mpr c12
       have H' := Aside0.mk H;clear H;have hnb19 := NB219_224.out;have hnc19 := NB224_219.out
       obtain ⟨_,_,_,_⟩ := blk2 BK219
       have p225 : 0 ≤ (x7_1 : Int) := of_decide_eq_true tA
       have q225 : x7_1 < (l0_1.length : Int) := of_decide_eq_true tA
       obtain ⟨ad225, e225, hx225_0, hx225_1, hx225_2, hx225_3, hx225_4, hx225_5, hx225_6, hx225_7, hx225_8⟩ := at_T63 HR0_1.out x7_1 p225 q225
       cases e225
       replace hx225_0 := (HB.out.cell (World.block_lt_of_cell? w _ hx225_0)).trans hx225_0
       replace hx225_1 := (HB.out.cell (World.block_lt_of_cell? w _ hx225_1)).trans hx225_1
       replace hx225_2 := (HB.out.cell (World.block_lt_of_cell? w _ hx225_2)).trans hx225_2
       replace hx225_3 := (HB.out.cell (World.block_lt_of_cell? w _ hx225_3)).trans hx225_3
       replace hx225_4 := (HB.out.cell (World.block_lt_of_cell? w _ hx225_4)).trans hx225_4
       replace hx225_5 := (HB.out.cell (World.block_lt_of_cell? w _ hx225_5)).trans hx225_5
       replace hx225_6 := (HB.out.cell (World.block_lt_of_cell? w _ hx225_6)).trans hx225_6
       replace hx225_7 := (HB.out.cell (World.block_lt_of_cell? w _ hx225_7)).trans hx225_7
       replace hx225_8 := (HB.out.cell (World.block_lt_of_cell? w _ hx225_8)).trans hx225_8
       replace p225 := eq_true p225;replace q225 := eq_true q225
       go_wp2_with (first | ((with_reducible refine gate_dst (N := 8) rfl ?_); refine box_event ?hg (N := 8) ?hd (cs := #[.int .i64 0, .int .i64 0, .int .i64 0, .int .i64 0, .int .i64 0, .int .i64 0, .int .i64 0, .int .i64 0, .int .i64 0]) (t := 63) ?hr ?_; (case hd => rfl); (case hg => rfl); (case hr => first | (go_simp; done) | (go_simp; rfl)); intro gb226 hg w21 hbox hb; have BK226 := Aside0.mk (hbox); have GW226 := bG hg; have GE226 := bG hg; replace HB := bS hb; have NB219_226 := Aside0.mk ((by rw [hg]; exact Nat.ne_of_lt (blk_lt (g := gb219) (o := .cells #[.int .i64 a0_0, .slice (some ad225) l0_1.length c0_1] 24 (0, 0)) (bk BK219)) : gb219 ≠ gb226)); have NB226_219 := Aside0.mk ((by rw [hg]; exact Nat.ne_of_gt (blk_lt (g := gb219) (o := .cells #[.int .i64 a0_0, .slice (some ad225) l0_1.length c0_1] 24 (0, 0)) (bk BK219)) : gb226 ≠ gb219)); replace BK219 := bK BK219 hb; have NB224_226 := Aside0.mk ((by rw [hg]; exact Nat.ne_of_lt (blk_lt (g := gb224) (o := .cells #[.int .i64 t220, .int .i64 t221, .int .i64 t222] 115 (0, 0)) (bk BK224)) : gb224 ≠ gb226)); have NB226_224 := Aside0.mk ((by rw [hg]; exact Nat.ne_of_gt (blk_lt (g := gb224) (o := .cells #[.int .i64 t220, .int .i64 t221, .int .i64 t222] 115 (0, 0)) (bk BK224)) : gb226 ≠ gb224)); replace BK224 := bK BK224 hb; clear hb hbox hg; have hnb22 := NB226_219.out; have hnc22 := NB219_226.out; have hnb23 := NB226_224.out; have hnc23 := NB224_226.out; obtain ⟨_,_,_,_,_,_,_,_,_,_,_,_,_,_,_,_,_,_⟩ := blk9 BK226))
       go_roundg k1
       case measure => have := HK1.out; omega
       case rel => exact ⟨(wrap64 (x7_1 + 1)), eS, H', ⟨by have := HK1.out; omega⟩, ⟨by (with_reducible repeat (first | refine blk_drewN ?_ _ | refine blk_drew ?_ | refine blk_alloc ?_ _)); refine blk_far ?_ NB219_226.out _; (with_reducible repeat (first | refine blk_drewN ?_ _ | refine blk_drew ?_ | refine blk_alloc ?_ _)); refine blk_far ?_ NB219_226.out _; (with_reducible repeat (first | refine blk_drewN ?_ _ | refine blk_drew ?_ | refine blk_alloc ?_ _)); refine blk_far ?_ NB219_226.out _; (with_reducible repeat (first | refine blk_drewN ?_ _ | refine blk_drew ?_ | refine blk_alloc ?_ _)); refine blk_far ?_ NB219_226.out _; (with_reducible repeat (first | refine blk_drewN ?_ _ | refine blk_drew ?_ | refine blk_alloc ?_ _)); refine blk_far ?_ NB219_226.out _; (with_reducible repeat (first | refine blk_drewN ?_ _ | refine blk_drew ?_ | refine blk_alloc ?_ _)); refine blk_far ?_ NB219_226.out _; (with_reducible repeat (first | refine blk_drewN ?_ _ | refine blk_drew ?_ | refine blk_alloc ?_ _)); refine blk_far ?_ NB219_226.out _; (with_reducible repeat (first | refine blk_drewN ?_ _ | refine blk_drew ?_ | refine blk_alloc ?_ _)); refine blk_far ?_ NB219_226.out _; (with_reducible repeat (first | refine blk_drewN ?_ _ | refine blk_drew ?_ | refine blk_alloc ?_ _)); refine blk_far ?_ NB219_226.out _; (with_reducible repeat (first | refine blk_drewN ?_ _ | refine blk_drew ?_ | refine blk_alloc ?_ _)); exact BK219.out⟩, ⟨by (with_reducible repeat (first | refine blk_drewN ?_ _ | refine blk_drew ?_ | refine blk_alloc ?_ _)); refine blk_far ?_ NB224_226.out _; (with_reducible repeat (first | refine blk_drewN ?_ _ | refine blk_drew ?_ | refine blk_alloc ?_ _)); refine blk_far ?_ NB224_226.out _; (with_reducible repeat (first | refine blk_drewN ?_ _ | refine blk_drew ?_ | refine blk_alloc ?_ _)); refine blk_far ?_ NB224_226.out _; (with_reducible repeat (first | refine blk_drewN ?_ _ | refine blk_drew ?_ | refine blk_alloc ?_ _)); refine blk_far ?_ NB224_226.out _; (with_reducible repeat (first | refine blk_drewN ?_ _ | refine blk_drew ?_ | refine blk_alloc ?_ _)); refine blk_far ?_ NB224_226.out _; (with_reducible repeat (first | refine blk_drewN ?_ _ | refine blk_drew ?_ | refine blk_alloc ?_ _)); refine blk_far ?_ NB224_226.out _; (with_reducible repeat (first | refine blk_drewN ?_ _ | refine blk_drew ?_ | refine blk_alloc ?_ _)); refine blk_far ?_ NB224_226.out _; (with_reducible repeat (first | refine blk_drewN ?_ _ | refine blk_drew ?_ | refine blk_alloc ?_ _)); refine blk_far ?_ NB224_226.out _; (with_reducible repeat (first | refine blk_drewN ?_ _ | refine blk_drew ?_ | refine blk_alloc ?_ _)); refine blk_far ?_ NB224_226.out _; (with_reducible repeat (first | refine blk_drewN ?_ _ | refine blk_drew ?_ | refine blk_alloc ?_ _)); exact BK224.out⟩, ⟨bB⟩⟩
     ·
      rw [if_neg c11] at H
      have c11b0 : (((rd_T63 l0_1 x7_1).f0) == 4) = false := beq_eq_false_iff_ne.mpr c11
      have c11b1 : (((rd_T63 l0_1 x7_1).f0) != 4) = true := bne_iff_ne.mpr c11
      have H' := Aside0.mk H;clear H;have hnb25 := NB219_224.out;have hnc25 := NB224_219.out
      obtain ⟨_,_,_,_⟩ := blk2 BK219
      have p225 : 0 ≤ (x7_1 : Int) := of_decide_eq_true tA
      have q225 : x7_1 < (l0_1.length : Int) := of_decide_eq_true tA
      obtain ⟨ad225, e225, hx225_0, hx225_1, hx225_2, hx225_3, hx225_4, hx225_5, hx225_6, hx225_7, hx225_8⟩ := at_T63 HR0_1.out x7_1 p225 q225
      cases e225
      replace hx225_0 := (HB.out.cell (World.block_lt_of_cell? w _ hx225_0)).trans hx225_0
      replace hx225_1 := (HB.out.cell (World.block_lt_of_cell? w _ hx225_1)).trans hx225_1
      replace hx225_2 := (HB.out.cell (World.block_lt_of_cell? w _ hx225_2)).trans hx225_2
      replace hx225_3 := (HB.out.cell (World.block_lt_of_cell? w _ hx225_3)).trans hx225_3
      replace hx225_4 := (HB.out.cell (World.block_lt_of_cell? w _ hx225_4)).trans hx225_4
      replace hx225_5 := (HB.out.cell (World.block_lt_of_cell? w _ hx225_5)).trans hx225_5
      replace hx225_6 := (HB.out.cell (World.block_lt_of_cell? w _ hx225_6)).trans hx225_6
      replace hx225_7 := (HB.out.cell (World.block_lt_of_cell? w _ hx225_7)).trans hx225_7
      replace hx225_8 := (HB.out.cell (World.block_lt_of_cell? w _ hx225_8)).trans hx225_8
      replace p225 := eq_true p225;replace q225 := eq_true q225
      go_wp2_with (first | ((with_reducible refine gate_dst (N := 8) rfl ?_); refine box_event ?hg (N := 8) ?hd (cs := #[.int .i64 0, .int .i64 0, .int .i64 0, .int .i64 0, .int .i64 0, .int .i64 0, .int .i64 0, .int .i64 0, .int .i64 0]) (t := 63) ?hr ?_; (case hd => rfl); (case hg => rfl); (case hr => first | (go_simp; done) | (go_simp; rfl)); intro gb226 hg w27 hbox hb; have BK226 := Aside0.mk (hbox); have GW226 := bG hg; have GE226 := bG hg; replace HB := bS hb; have NB219_226 := Aside0.mk ((by rw [hg]; exact Nat.ne_of_lt (blk_lt (g := gb219) (o := .cells #[.int .i64 a0_0, .slice (some ad225) l0_1.length c0_1] 24 (0, 0)) (bk BK219)) : gb219 ≠ gb226)); have NB226_219 := Aside0.mk ((by rw [hg]; exact Nat.ne_of_gt (blk_lt (g := gb219) (o := .cells #[.int .i64 a0_0, .slice (some ad225) l0_1.length c0_1] 24 (0, 0)) (bk BK219)) : gb226 ≠ gb219)); replace BK219 := bK BK219 hb; have NB224_226 := Aside0.mk ((by rw [hg]; exact Nat.ne_of_lt (blk_lt (g := gb224) (o := .cells #[.int .i64 t220, .int .i64 t221, .int .i64 t222] 115 (0, 0)) (bk BK224)) : gb224 ≠ gb226)); have NB226_224 := Aside0.mk ((by rw [hg]; exact Nat.ne_of_gt (blk_lt (g := gb224) (o := .cells #[.int .i64 t220, .int .i64 t221, .int .i64 t222] 115 (0, 0)) (bk BK224)) : gb226 ≠ gb224)); replace BK224 := bK BK224 hb; clear hb hbox hg; have hnb28 := NB226_219.out; have hnc28 := NB219_226.out; have hnb29 := NB226_224.out; have hnc29 := NB224_226.out; obtain ⟨_,_,_,_,_,_,_,_,_,_,_,_,_,_,_,_,_,_⟩ := blk9 BK226; obtain ⟨_,_,_,_,_,_⟩ := blk3 BK224))
      go_loopg [9] k1 (fun kq v9 w' => ∃ (x9_2 : Int), v9 = .int .i64 x9_2 ∧ Aside0 (tenorref6_holiday.l1 kq a1 x7_1 x9_2 a0_0 l0_1 t220 t221 t222 ((rd_T63 l0_1 x7_1).f0) ((rd_T63 l0_1 x7_1).f1) ((rd_T63 l0_1 x7_1).f2) ((rd_T63 l0_1 x7_1).f3) ((rd_T63 l0_1 x7_1).f4) ((rd_T63 l0_1 x7_1).f5) ((rd_T63 l0_1 x7_1).f6) ((rd_T63 l0_1 x7_1).f7) ((rd_T63 l0_1 x7_1).f8) = some r) ∧ Aside0 (kq ≤ k1) ∧ Aside0 (w'.heap[gb219]? = some (.cells #[.int .i64 a0_0, (.slice (some ad225) l0_1.length c0_1)] 24 (0, 0))) ∧ Aside0 (w'.heap[gb224]? = some (.cells #[.int .i64 t220, .int .i64 t221, .int .i64 t222] 115 (0, 0))) ∧ Aside0 (w'.heap[gb226]? = some (.cells #[.int .i64 ((rd_T63 l0_1 x7_1).f0), .int .i64 ((rd_T63 l0_1 x7_1).f1), .int .i64 ((rd_T63 l0_1 x7_1).f2), .int .i64 ((rd_T63 l0_1 x7_1).f3), .int .i64 ((rd_T63 l0_1 x7_1).f4), .int .i64 ((rd_T63 l0_1 x7_1).f5), .int .i64 ((rd_T63 l0_1 x7_1).f6), .int .i64 ((rd_T63 l0_1 x7_1).f7), .int .i64 ((rd_T63 l0_1 x7_1).f8)] 63 (0, 0))) ∧ Aside0 (Below w.heap.size w w'))
      case atStart => exact ⟨(wrap64 (t220 - 1)), eS, H', ⟨Nat.le_refl _⟩, ⟨by (with_reducible repeat (first | refine blk_drewN ?_ _ | refine blk_drew ?_ | refine blk_alloc ?_ _)); refine blk_far ?_ NB219_226.out _; (with_reducible repeat (first | refine blk_drewN ?_ _ | refine blk_drew ?_ | refine blk_alloc ?_ _)); refine blk_far ?_ NB219_226.out _; (with_reducible repeat (first | refine blk_drewN ?_ _ | refine blk_drew ?_ | refine blk_alloc ?_ _)); refine blk_far ?_ NB219_226.out _; (with_reducible repeat (first | refine blk_drewN ?_ _ | refine blk_drew ?_ | refine blk_alloc ?_ _)); refine blk_far ?_ NB219_226.out _; (with_reducible repeat (first | refine blk_drewN ?_ _ | refine blk_drew ?_ | refine blk_alloc ?_ _)); refine blk_far ?_ NB219_226.out _; (with_reducible repeat (first | refine blk_drewN ?_ _ | refine blk_drew ?_ | refine blk_alloc ?_ _)); refine blk_far ?_ NB219_226.out _; (with_reducible repeat (first | refine blk_drewN ?_ _ | refine blk_drew ?_ | refine blk_alloc ?_ _)); refine blk_far ?_ NB219_226.out _; (with_reducible repeat (first | refine blk_drewN ?_ _ | refine blk_drew ?_ | refine blk_alloc ?_ _)); refine blk_far ?_ NB219_226.out _; (with_reducible repeat (first | refine blk_drewN ?_ _ | refine blk_drew ?_ | refine blk_alloc ?_ _)); refine blk_far ?_ NB219_226.out _; (with_reducible repeat (first | refine blk_drewN ?_ _ | refine blk_drew ?_ | refine blk_alloc ?_ _)); exact BK219.out⟩, ⟨by (with_reducible repeat (first | refine blk_drewN ?_ _ | refine blk_drew ?_ | refine blk_alloc ?_ _)); refine blk_far ?_ NB224_226.out _; (with_reducible repeat (first | refine blk_drewN ?_ _ | refine blk_drew ?_ | refine blk_alloc ?_ _)); refine blk_far ?_ NB224_226.out _; (with_reducible repeat (first | refine blk_drewN ?_ _ | refine blk_drew ?_ | refine blk_alloc ?_ _)); refine blk_far ?_ NB224_226.out _; (with_reducible repeat (first | refine blk_drewN ?_ _ | refine blk_drew ?_ | refine blk_alloc ?_ _)); refine blk_far ?_ NB224_226.out _; (with_reducible repeat (first | refine blk_drewN ?_ _ | refine blk_drew ?_ | refine blk_alloc ?_ _)); refine blk_far ?_ NB224_226.out _; (with_reducible repeat (first | refine blk_drewN ?_ _ | refine blk_drew ?_ | refine blk_alloc ?_ _)); refine blk_far ?_ NB224_226.out _; (with_reducible repeat (first | refine blk_drewN ?_ _ | refine blk_drew ?_ | refine blk_alloc ?_ _)); refine blk_far ?_ NB224_226.out _; (with_reducible repeat (first | refine blk_drewN ?_ _ | refine blk_drew ?_ | refine blk_alloc ?_ _)); refine blk_far ?_ NB224_226.out _; (with_reducible repeat (first | refine blk_drewN ?_ _ | refine blk_drew ?_ | refine blk_alloc ?_ _)); refine blk_far ?_ NB224_226.out _; (with_reducible repeat (first | refine blk_drewN ?_ _ | refine blk_drew ?_ | refine blk_alloc ?_ _)); exact BK224.out⟩, ⟨by (with_reducible repeat (first | refine blk_drewN ?_ _ | refine blk_drew ?_ | refine blk_alloc ?_ _)); refine blk_put (cs := #[.int .i64 ((rd_T63 l0_1 x7_1).f0), .int .i64 ((rd_T63 l0_1 x7_1).f1), .int .i64 ((rd_T63 l0_1 x7_1).f2), .int .i64 ((rd_T63 l0_1 x7_1).f3), .int .i64 ((rd_T63 l0_1 x7_1).f4), .int .i64 ((rd_T63 l0_1 x7_1).f5), .int .i64 ((rd_T63 l0_1 x7_1).f6), .int .i64 ((rd_T63 l0_1 x7_1).f7), .int .i64 0]) ?_ 8 _ rfl; (with_reducible repeat (first | refine blk_drewN ?_ _ | refine blk_drew ?_ | refine blk_alloc ?_ _)); refine blk_put (cs := #[.int .i64 ((rd_T63 l0_1 x7_1).f0), .int .i64 ((rd_T63 l0_1 x7_1).f1), .int .i64 ((rd_T63 l0_1 x7_1).f2), .int .i64 ((rd_T63 l0_1 x7_1).f3), .int .i64 ((rd_T63 l0_1 x7_1).f4), .int .i64 ((rd_T63 l0_1 x7_1).f5), .int .i64 ((rd_T63 l0_1 x7_1).f6), .int .i64 0, .int .i64 0]) ?_ 7 _ rfl; (with_reducible repeat (first | refine blk_drewN ?_ _ | refine blk_drew ?_ | refine blk_alloc ?_ _)); refine blk_put (cs := #[.int .i64 ((rd_T63 l0_1 x7_1).f0), .int .i64 ((rd_T63 l0_1 x7_1).f1), .int .i64 ((rd_T63 l0_1 x7_1).f2), .int .i64 ((rd_T63 l0_1 x7_1).f3), .int .i64 ((rd_T63 l0_1 x7_1).f4), .int .i64 ((rd_T63 l0_1 x7_1).f5), .int .i64 0, .int .i64 0, .int .i64 0]) ?_ 6 _ rfl; (with_reducible repeat (first | refine blk_drewN ?_ _ | refine blk_drew ?_ | refine blk_alloc ?_ _)); refine blk_put (cs := #[.int .i64 ((rd_T63 l0_1 x7_1).f0), .int .i64 ((rd_T63 l0_1 x7_1).f1), .int .i64 ((rd_T63 l0_1 x7_1).f2), .int .i64 ((rd_T63 l0_1 x7_1).f3), .int .i64 ((rd_T63 l0_1 x7_1).f4), .int .i64 0, .int .i64 0, .int .i64 0, .int .i64 0]) ?_ 5 _ rfl; (with_reducible repeat (first | refine blk_drewN ?_ _ | refine blk_drew ?_ | refine blk_alloc ?_ _)); refine blk_put (cs := #[.int .i64 ((rd_T63 l0_1 x7_1).f0), .int .i64 ((rd_T63 l0_1 x7_1).f1), .int .i64 ((rd_T63 l0_1 x7_1).f2), .int .i64 ((rd_T63 l0_1 x7_1).f3), .int .i64 0, .int .i64 0, .int .i64 0, .int .i64 0, .int .i64 0]) ?_ 4 _ rfl; (with_reducible repeat (first | refine blk_drewN ?_ _ | refine blk_drew ?_ | refine blk_alloc ?_ _)); refine blk_put (cs := #[.int .i64 ((rd_T63 l0_1 x7_1).f0), .int .i64 ((rd_T63 l0_1 x7_1).f1), .int .i64 ((rd_T63 l0_1 x7_1).f2), .int .i64 0, .int .i64 0, .int .i64 0, .int .i64 0, .int .i64 0, .int .i64 0]) ?_ 3 _ rfl; (with_reducible repeat (first | refine blk_drewN ?_ _ | refine blk_drew ?_ | refine blk_alloc ?_ _)); refine blk_put (cs := #[.int .i64 ((rd_T63 l0_1 x7_1).f0), .int .i64 ((rd_T63 l0_1 x7_1).f1), .int .i64 0, .int .i64 0, .int .i64 0, .int .i64 0, .int .i64 0, .int .i64 0, .int .i64 0]) ?_ 2 _ rfl; (with_reducible repeat (first | refine blk_drewN ?_ _ | refine blk_drew ?_ | refine blk_alloc ?_ _)); refine blk_put (cs := #[.int .i64 ((rd_T63 l0_1 x7_1).f0), .int .i64 0, .int .i64 0, .int .i64 0, .int .i64 0, .int .i64 0, .int .i64 0, .int .i64 0, .int .i64 0]) ?_ 1 _ rfl; (with_reducible repeat (first | refine blk_drewN ?_ _ | refine blk_drew ?_ | refine blk_alloc ?_ _)); refine blk_put (cs := #[.int .i64 0, .int .i64 0, .int .i64 0, .int .i64 0, .int .i64 0, .int .i64 0, .int .i64 0, .int .i64 0, .int .i64 0]) ?_ 0 _ rfl; (with_reducible repeat (first | refine blk_drewN ?_ _ | refine blk_drew ?_ | refine blk_alloc ?_ _)); exact BK226.out⟩, ⟨bB⟩⟩
      case round =>
       clear H'
       obtain ⟨x9_2, rfl, HA, HK2, BK219, BK224, BK226, HB⟩ := hrel
       cases gk with
       | zero => exact absurd HA.out (by simp [tenorref6_holiday.l1])
       | succ k2 =>
        have H := HA.out;clear HA
        simp only [tenorref6_holiday.l1] at H
        by_cases c32 : x9_2 ≤ (wrap64 (t220 + 1))
        ·
         rw [if_pos c32] at H
         have c32b0 : decide (x9_2 ≤ (wrap64 (t220 + 1))) = true := decide_eq_true c32
         clear c32;replace H := Option.bind_eq_some_iff.mp H
         obtain ⟨⟨t227, t228⟩, A330, H⟩ := H
         replace H : (if t228 = true then (if t227 = a1 then (some true) else (tenorref6_holiday.l1 k2 a1 x7_1 (wrap64 (x9_2 + 1)) a0_0 l0_1 t220 t221 t222 ((rd_T63 l0_1 x7_1).f0) ((rd_T63 l0_1 x7_1).f1) ((rd_T63 l0_1 x7_1).f2) ((rd_T63 l0_1 x7_1).f3) ((rd_T63 l0_1 x7_1).f4) ((rd_T63 l0_1 x7_1).f5) ((rd_T63 l0_1 x7_1).f6) ((rd_T63 l0_1 x7_1).f7) ((rd_T63 l0_1 x7_1).f8))) else (tenorref6_holiday.l1 k2 a1 x7_1 (wrap64 (x9_2 + 1)) a0_0 l0_1 t220 t221 t222 ((rd_T63 l0_1 x7_1).f0) ((rd_T63 l0_1 x7_1).f1) ((rd_T63 l0_1 x7_1).f2) ((rd_T63 l0_1 x7_1).f3) ((rd_T63 l0_1 x7_1).f4) ((rd_T63 l0_1 x7_1).f5) ((rd_T63 l0_1 x7_1).f6) ((rd_T63 l0_1 x7_1).f7) ((rd_T63 l0_1 x7_1).f8))) = some r := H
         have A33 := Aside0.mk A330;clear A330
         by_cases c34 : t228 = true
         ·
          subst c34
          have H1 : (if t227 = a1 then (some true) else (tenorref6_holiday.l1 k2 a1 x7_1 (wrap64 (x9_2 + 1)) a0_0 l0_1 t220 t221 t222 ((rd_T63 l0_1 x7_1).f0) ((rd_T63 l0_1 x7_1).f1) ((rd_T63 l0_1 x7_1).f2) ((rd_T63 l0_1 x7_1).f3) ((rd_T63 l0_1 x7_1).f4) ((rd_T63 l0_1 x7_1).f5) ((rd_T63 l0_1 x7_1).f6) ((rd_T63 l0_1 x7_1).f7) ((rd_T63 l0_1 x7_1).f8))) = some r := by rw [if_pos rfl] at H; exact H
          clear H;have H := H1;clear H1
          by_cases c35 : t227 = a1
          ·
           rw [if_pos c35] at H
           have c35b0 : (t227 == a1) = true := beq_iff_eq.mpr c35
           have c35b1 : (t227 != a1) = false := bne_eq_false_iff_eq.mpr c35
           clear c35
           obtain rfl := Option.some.inj H
           have hnb36 := NB224_219.out;have hnc36 := NB219_224.out;have hnb37 := NB224_226.out;have hnc37 := NB226_224.out
           obtain ⟨_,_,_,_,_,_⟩ := blk3 BK224;have hnb39 := NB219_226.out;have hnc39 := NB226_219.out
           obtain ⟨_,_,_,_⟩ := blk2 BK219
           obtain ⟨_,_,_,_,_,_,_,_,_,_,_,_,_,_,_,_,_,_⟩ := blk9 BK226
           go_wp2_with (first | ((with_reducible refine gG 110 ?_); refine goA (some 50) Try.func110 #[.agg #[.int .i64 a0_0, .slice (some ad225) l0_1.length c0_1], .agg #[.int .i64 ((rd_T63 l0_1 x7_1).f0), .int .i64 ((rd_T63 l0_1 x7_1).f1), .int .i64 ((rd_T63 l0_1 x7_1).f2), .int .i64 ((rd_T63 l0_1 x7_1).f3), .int .i64 ((rd_T63 l0_1 x7_1).f4), .int .i64 ((rd_T63 l0_1 x7_1).f5), .int .i64 ((rd_T63 l0_1 x7_1).f6), .int .i64 ((rd_T63 l0_1 x7_1).f7), .int .i64 ((rd_T63 l0_1 x7_1).f8)], .int .i64 x9_2] ?_; (with_reducible refine (tenorref6_day.calls k2 a0_0 _ _ l0_1 ((rd_T63 l0_1 x7_1).f0) ((rd_T63 l0_1 x7_1).f1) ((rd_T63 l0_1 x7_1).f2) ((rd_T63 l0_1 x7_1).f3) ((rd_T63 l0_1 x7_1).f4) ((rd_T63 l0_1 x7_1).f5) ((rd_T63 l0_1 x7_1).f6) ((rd_T63 l0_1 x7_1).f7) ((rd_T63 l0_1 x7_1).f8) x9_2 t227 true _ ?side1 ?side2 A33.out).mono ?_); (case side1 => exact sC HR0_1); (case side2 => exact HC0_1.out); rintro e w42 ⟨rfl, hb⟩; refine ⟨_, rfl, ?_⟩; replace BK219 := bK BK219 hb; replace BK224 := bK BK224 hb; replace BK226 := bK BK226 hb; replace HB := bS hb; (try clear hb); (try clear hb2); (try clear hk); (try clear hi)))
           go_ret
           exact ⟨eW, bB⟩
          ·
           rw [if_neg c35] at H
           have c35b0 : (t227 == a1) = false := beq_eq_false_iff_ne.mpr c35
           have c35b1 : (t227 != a1) = true := bne_iff_ne.mpr c35
           have H' := Aside0.mk H;clear H;have hnb43 := NB224_219.out;have hnc43 := NB219_224.out;have hnb44 := NB224_226.out;have hnc44 := NB226_224.out
           obtain ⟨_,_,_,_,_,_⟩ := blk3 BK224;have hnb46 := NB219_226.out;have hnc46 := NB226_219.out
           obtain ⟨_,_,_,_⟩ := blk2 BK219
           obtain ⟨_,_,_,_,_,_,_,_,_,_,_,_,_,_,_,_,_,_⟩ := blk9 BK226
           go_wp2_with (first | ((with_reducible refine gG 110 ?_); refine goA (some 50) Try.func110 #[.agg #[.int .i64 a0_0, .slice (some ad225) l0_1.length c0_1], .agg #[.int .i64 ((rd_T63 l0_1 x7_1).f0), .int .i64 ((rd_T63 l0_1 x7_1).f1), .int .i64 ((rd_T63 l0_1 x7_1).f2), .int .i64 ((rd_T63 l0_1 x7_1).f3), .int .i64 ((rd_T63 l0_1 x7_1).f4), .int .i64 ((rd_T63 l0_1 x7_1).f5), .int .i64 ((rd_T63 l0_1 x7_1).f6), .int .i64 ((rd_T63 l0_1 x7_1).f7), .int .i64 ((rd_T63 l0_1 x7_1).f8)], .int .i64 x9_2] ?_; (with_reducible refine (tenorref6_day.calls k2 a0_0 _ _ l0_1 ((rd_T63 l0_1 x7_1).f0) ((rd_T63 l0_1 x7_1).f1) ((rd_T63 l0_1 x7_1).f2) ((rd_T63 l0_1 x7_1).f3) ((rd_T63 l0_1 x7_1).f4) ((rd_T63 l0_1 x7_1).f5) ((rd_T63 l0_1 x7_1).f6) ((rd_T63 l0_1 x7_1).f7) ((rd_T63 l0_1 x7_1).f8) x9_2 t227 true _ ?side1 ?side2 A33.out).mono ?_); (case side1 => exact sC HR0_1); (case side2 => exact HC0_1.out); rintro e w49 ⟨rfl, hb⟩; refine ⟨_, rfl, ?_⟩; replace BK219 := bK BK219 hb; replace BK224 := bK BK224 hb; replace BK226 := bK BK226 hb; replace HB := bS hb; (try clear hb); (try clear hb2); (try clear hk); (try clear hi)))
           go_roundg k2
           case measure => have := HK1.out; have := HK2.out; omega
           case rel => exact ⟨(wrap64 (x9_2 + 1)), eS, H', ⟨by have := HK1.out; have := HK2.out; omega⟩, ⟨(bk BK219)⟩, ⟨(bk BK224)⟩, ⟨(bk BK226)⟩, ⟨bB⟩⟩
         ·
          replace c34 := Bool.eq_false_iff.mpr c34;subst c34
          have H1 : (tenorref6_holiday.l1 k2 a1 x7_1 (wrap64 (x9_2 + 1)) a0_0 l0_1 t220 t221 t222 ((rd_T63 l0_1 x7_1).f0) ((rd_T63 l0_1 x7_1).f1) ((rd_T63 l0_1 x7_1).f2) ((rd_T63 l0_1 x7_1).f3) ((rd_T63 l0_1 x7_1).f4) ((rd_T63 l0_1 x7_1).f5) ((rd_T63 l0_1 x7_1).f6) ((rd_T63 l0_1 x7_1).f7) ((rd_T63 l0_1 x7_1).f8)) = some r := by rw [if_neg (show ¬ (false = true) by decide)] at H; exact H
          clear H;have H := H1;clear H1;have H' := Aside0.mk H;clear H;have hnb50 := NB224_219.out;have hnc50 := NB219_224.out;have hnb51 := NB224_226.out;have hnc51 := NB226_224.out
          obtain ⟨_,_,_,_,_,_⟩ := blk3 BK224;have hnb53 := NB219_226.out;have hnc53 := NB226_219.out
          obtain ⟨_,_,_,_⟩ := blk2 BK219
          obtain ⟨_,_,_,_,_,_,_,_,_,_,_,_,_,_,_,_,_,_⟩ := blk9 BK226
          go_wp2_with (first | ((with_reducible refine gG 110 ?_); refine goA (some 50) Try.func110 #[.agg #[.int .i64 a0_0, .slice (some ad225) l0_1.length c0_1], .agg #[.int .i64 ((rd_T63 l0_1 x7_1).f0), .int .i64 ((rd_T63 l0_1 x7_1).f1), .int .i64 ((rd_T63 l0_1 x7_1).f2), .int .i64 ((rd_T63 l0_1 x7_1).f3), .int .i64 ((rd_T63 l0_1 x7_1).f4), .int .i64 ((rd_T63 l0_1 x7_1).f5), .int .i64 ((rd_T63 l0_1 x7_1).f6), .int .i64 ((rd_T63 l0_1 x7_1).f7), .int .i64 ((rd_T63 l0_1 x7_1).f8)], .int .i64 x9_2] ?_; (with_reducible refine (tenorref6_day.calls k2 a0_0 _ _ l0_1 ((rd_T63 l0_1 x7_1).f0) ((rd_T63 l0_1 x7_1).f1) ((rd_T63 l0_1 x7_1).f2) ((rd_T63 l0_1 x7_1).f3) ((rd_T63 l0_1 x7_1).f4) ((rd_T63 l0_1 x7_1).f5) ((rd_T63 l0_1 x7_1).f6) ((rd_T63 l0_1 x7_1).f7) ((rd_T63 l0_1 x7_1).f8) x9_2 t227 false _ ?side1 ?side2 A33.out).mono ?_); (case side1 => exact sC HR0_1); (case side2 => exact HC0_1.out); rintro e w56 ⟨rfl, hb⟩; refine ⟨_, rfl, ?_⟩; replace BK219 := bK BK219 hb; replace BK224 := bK BK224 hb; replace BK226 := bK BK226 hb; replace HB := bS hb; (try clear hb); (try clear hb2); (try clear hk); (try clear hi)))
          go_roundg k2
          case measure => have := HK1.out; have := HK2.out; omega
          case rel => exact ⟨(wrap64 (x9_2 + 1)), eS, H', ⟨by have := HK1.out; have := HK2.out; omega⟩, ⟨(bk BK219)⟩, ⟨(bk BK224)⟩, ⟨(bk BK226)⟩, ⟨bB⟩⟩
        ·
         rw [if_neg c32] at H
         have c32b0 : decide (x9_2 ≤ (wrap64 (t220 + 1))) = false := decide_eq_false c32
         clear c32;have H' := Aside0.mk H;clear H;have hnb57 := NB224_219.out;have hnc57 := NB219_224.out;have hnb58 := NB224_226.out;have hnc58 := NB226_224.out
         obtain ⟨_,_,_,_,_,_⟩ := blk3 BK224
         go_wp2
         go_roundg k2
         case measure => have := HK1.out; have := HK2.out; omega
         case rel => exact ⟨(wrap64 (x7_1 + 1)), eS, H', ⟨by have := HK1.out; have := HK2.out; omega⟩, ⟨(bk BK219)⟩, ⟨(bk BK224)⟩, ⟨bB⟩⟩
    ·
     rw [if_neg c10] at H
     exact absurd H (by simp)
   ·
    rw [if_neg c9] at H
    have c9b0 : decide (x7_1 < (l0_1.length : Int)) = false := decide_eq_false c9
    clear c9
    obtain rfl := Option.some.inj H
    have hnb60 := NB219_224.out;have hnc60 := NB224_219.out
    obtain ⟨_,_,_,_⟩ := blk2 BK219
    go_wp2
    go_ret
    exact ⟨eW, bB⟩
end Go.Proofs.Ytoncignjcgjhhaa.Q
namespace Go.Proofs.Ytoncignjcgjhhaa.R
open Go.RowKit Go.Proofs.YtoncignjcgjhhaaW.PrintWords Go.Proofs.YtoncignjcgjhhaaW.PrintLast Go.Proofs.YtoncignjcgjhhaaW.PrintMore
open Go.Proofs.Ytoncignjcgjhhaa.Q
open Go.Proofs.Ytoncignjcgjhhaa.L (w64 td tm tm0)
theorem mod7 (n : Int) : Int.tmod (Int.tmod n 7 + 7) 7 = n % 7 := by
 have h : -7 < Int.tmod n 7 ∧ Int.tmod n 7 < 7 ∧ (Int.tmod n 7) % 7 = n % 7 := by
  by_cases h0 : 0 ≤ n
  ·
   rw [tm h0]; omega
  ·
   obtain ⟨m, rfl⟩ : ∃ m, n = -m := ⟨-n, by omega⟩
   rw [Int.neg_tmod, tm (by omega)]; omega
 rw [tm (by omega)]; omega
theorem shr_tab : ∀ we : Fin 127, ∀ s : Fin 7, (Go.bits .and .i64 (shr .i64 (we.val : Int) (s.val : Int)) 1 == 1) = decide ((we.val : Int) / 2 ^ (s.val : Int).toNat % 2 = 1) := by decide +kernel
theorem off (we n : Int) (l : List S63) (h0 : 0 ≤ we) (h1 : we ≤ 126) : tenorref6_off.f we l n = some (M.off we n) := by
 unfold tenorref6_off.f
 have ht : -7 < Int.tmod n 7 ∧ Int.tmod n 7 < 7 := by
  by_cases h0 : 0 ≤ n
  ·
   rw [tm h0]; omega
  ·
   obtain ⟨m, rfl⟩ : ∃ m, n = -m := ⟨-n, by omega⟩
   rw [Int.neg_tmod, tm (by omega)]; omega
 rw [w64 (x := Int.tmod n 7 + 7) (by omega) (by omega), mod7, if_pos (by omega)]
 have h := shr_tab ⟨we.toNat, by omega⟩ ⟨(n % 7).toNat, by omega⟩
 rw [show (((⟨we.toNat, by omega⟩ : Fin 127).val : Nat) : Int) = we from by simp; omega, show (((⟨(n % 7).toNat, by omega⟩ : Fin 7).val : Nat) : Int) = n % 7 from by simp; omega] at h
 rw [h]
 unfold M.off
 rw [show (n + 7) % 7 = n % 7 from by omega]
theorem least (p : Int → Bool) : ∀ (N : Nat), p N = false → ∃ k : Int, 0 ≤ k ∧ k ≤ N ∧ p k = false ∧ ∀ j, 0 ≤ j → j < k → p j = true
 | 0, h => ⟨0, by omega, by omega, h, fun j a b => by omega⟩
 | N + 1, h => by
  by_cases hN : ∃ k : Nat, k ≤ N ∧ p k = false
  ·
   obtain ⟨k, hk, hp⟩ := hN
   obtain ⟨q, a, b, c, d⟩ := least p k hp
   exact ⟨q, a, by omega, c, d⟩
  ·
   refine ⟨(N + 1 : Nat), by omega, by omega, h, fun j a b => ?_⟩
   cases hj : p j with
   | true => rfl
   | false => exact absurd ⟨j.toNat, by omega, by rw [show ((j.toNat : Nat) : Int) = j from by omega]; exact hj⟩ hN
 termination_by N => N
 decreasing_by omega
theorem movedF_val (we n mv ku kd : Int) (hu : M.off we (n + ku) = false) (hu' : ∀ j, 0 ≤ j → j < ku → M.off we (n + j) = true) (hd : M.off we (n - kd) = false) (hd' : ∀ j, 0 ≤ j → j < kd → M.off we (n - j) = true) (hku : ku ≤ 6) :
  ∀ (f : Nat) (k : Int), 1 ≤ k → k ≤ ku → (mv = 2 → k ≤ kd) → k + f = 7 → M.movedF we n mv f k = if mv = 2 ∧ kd < ku then n - kd else n + ku
 | 0, k, a, b, c, d => by omega
 | f + 1, k, a, b, c, d => by
  unfold M.movedF
  by_cases e : k = ku
  ·
   subst e; rw [if_pos hu]
   rw [if_neg (by rintro ⟨x, y⟩; have := c x; omega)]
  ·
   rw [if_neg (by rw [hu' k (by omega) (by omega)]; simp)]
   by_cases h2 : mv = 2
   ·
    by_cases e2 : k = kd
    ·
     subst e2; rw [if_pos ⟨h2, hd⟩, if_pos ⟨h2, by omega⟩]
    ·
     have := c h2
     rw [if_neg (by rw [hd' k (by omega) (by omega)]; simp)]
     exact movedF_val we n mv ku kd hu hu' hd hd' hku f (k + 1) (by omega) (by omega) (by omega) (by omega)
   ·
    rw [if_neg (by simp [h2])]
    exact movedF_val we n mv ku kd hu hu' hd hd' hku f (k + 1) (by omega) (by omega) (by omega) (by omega)
theorem moved_l1 (we n mv up kd : Int) (l : List S63) (h0 : 0 ≤ we) (h1 : we ≤ 126) (hn : -1000000 ≤ n) (hn1 : n ≤ 1000000) (hup : -1000000 ≤ up) (hup1 : up ≤ 2000000) (hkd : kd ≤ 6) (hd : M.off we (n - kd) = false) (hd' : ∀ j, 0 ≤ j → j < kd → M.off we (n - j) = true) :
  ∀ (f : Nat) (j : Int), 0 ≤ j → j ≤ kd → kd - j = f → Ev (fun k => tenorref6_moved.l1 k n mv up (n - j) we l) (if mv = 2 ∧ kd < up - n then n - kd else up)
 | 0, j, a, b, c => by
  have e : j = kd := by omega
  refine Ev.step (f := fun _ => some (if mv = 2 ∧ kd < up - n then n - kd else up)) (fun k => ?_) (Ev.now _)
  simp only [tenorref6_moved.l1]
  rw [off we _ l h0 h1, e, hd]
  simp only [Option.bind_some, Bool.false_eq_true, if_false]
  rw [w64 (by omega) (by omega), w64 (by omega) (by omega)]
  by_cases h2 : mv = 2
  ·
   rw [if_pos h2]
   by_cases h3 : kd < up - n
   ·
    rw [if_pos (by omega), if_pos ⟨h2, h3⟩]
   ·
    rw [if_neg (by omega), if_neg (by simp [h3])]
  ·
   rw [if_neg h2, if_neg (by simp [h2])]
 | f + 1, j, a, b, c => by
  have ih := moved_l1 we n mv up kd l h0 h1 hn hn1 hup hup1 hkd hd hd' f (j + 1) (by omega) (by omega) (by omega)
  refine Ev.step (fun k => ?_) ih
  simp only [tenorref6_moved.l1]
  rw [off we _ l h0 h1, hd' j a (by omega)]
  simp only [Option.bind_some, if_true]
  rw [w64 (by omega) (by omega), show n - j - 1 = n - (j + 1) from by omega]
theorem moved_l0 (we n mv ku kd : Int) (l : List S63) (h0 : 0 ≤ we) (h1 : we ≤ 126) (hn : -1000000 ≤ n) (hn1 : n ≤ 1000000) (hku : ku ≤ 6) (hkd : kd ≤ 6) (hkd0 : 0 ≤ kd) (hu : M.off we (n + ku) = false) (hu' : ∀ j, 0 ≤ j → j < ku → M.off we (n + j) = true)
  (hd : M.off we (n - kd) = false) (hd' : ∀ j, 0 ≤ j → j < kd → M.off we (n - j) = true) :
  ∀ (f : Nat) (j : Int), 0 ≤ j → j ≤ ku → ku - j = f → Ev (fun k => tenorref6_moved.l0 k n mv (n + j) we l) (if mv = 2 ∧ kd < ku then n - kd else n + ku)
 | 0, j, a, b, c => by
  have e : j = ku := by omega
  have h := moved_l1 we n mv (n + ku) kd l h0 h1 hn hn1 (by omega) (by omega) hkd hd hd' kd.toNat 0 (by omega) (by omega) (by omega)
  rw [Int.sub_zero, show n + ku - n = ku from by omega] at h
  refine Ev.step (fun k => ?_) h
  simp only [tenorref6_moved.l0]
  rw [off we _ l h0 h1, e, hu]
  simp only [Option.bind_some, Bool.false_eq_true, if_false]
 | f + 1, j, a, b, c => by
  have ih := moved_l0 we n mv ku kd l h0 h1 hn hn1 hku hkd hkd0 hu hu' hd hd' f (j + 1) (by omega) (by omega) (by omega)
  refine Ev.step (fun k => ?_) ih
  simp only [tenorref6_moved.l0]
  rw [off we _ l h0 h1, hu' j a (by omega)]
  simp only [Option.bind_some, if_true]
  rw [w64 (by omega) (by omega), show n + j + 1 = n + (j + 1) from by omega]
theorem moved (we n mv : Int) (l : List S63) (h0 : 0 ≤ we) (h1 : we ≤ 126) (hn : -1000000 ≤ n) (hn1 : n ≤ 1000000) : Ev (fun k => tenorref6_moved.f k we l n mv) (M.moved we n mv) := by
 have no : ∀ b, b = true → Ev (fun k => tenorref6_moved.j0 k n mv b we l) n := fun b hb => Ev.step (f := fun _ => some n) (fun k => by simp only [tenorref6_moved.j0, hb, if_true]) (Ev.now _)
 by_cases hm : mv = 0
 ·
  subst hm
  rw [H.moved_0]
  exact Ev.congr (fun k => by unfold tenorref6_moved.f; rw [if_pos rfl]) (no true rfl)
 ·
  cases ho : M.off we n with
  | false =>
   rw [H.moved_open ho]
   refine Ev.congr (fun k => ?_) (no true rfl)
   unfold tenorref6_moved.f
   rw [if_neg hm, off we n l h0 h1, ho]; rfl
  | true =>
   rw [H.moved_off hm ho]
   obtain ⟨ku0, a, b, c⟩ := M.off_near we n h0 h1
   obtain ⟨ku, u0, u1, u2, u3⟩ := least (fun j => M.off we (n + j)) ku0.toNat (by show M.off we (n + _) = false; rw [show ((ku0.toNat : Nat) : Int) = ku0 from by omega]; exact c)
   obtain ⟨kd0, a', b', c'⟩ := M.off_near we (n - 6) h0 h1
   obtain ⟨kd, d0, d1, d2, d3⟩ := least (fun j => M.off we (n - j)) (6 - kd0).toNat (by show M.off we (n - _) = false; rw [show n - (((6 - kd0).toNat : Nat) : Int) = n - 6 + kd0 from by omega]; exact c')
   replace u2 : M.off we (n + ku) = false := u2
   replace d2 : M.off we (n - kd) = false := d2
   replace u3 : ∀ j, 0 ≤ j → j < ku → M.off we (n + j) = true := u3
   replace d3 : ∀ j, 0 ≤ j → j < kd → M.off we (n - j) = true := d3
   have hku1 : 1 ≤ ku := by
    by_cases e : ku = 0
    ·
     subst e; rw [Int.add_zero, ho] at u2; cases u2
    ·
     omega
   have hkd1 : 1 ≤ kd := by
    by_cases e : kd = 0
    ·
     subst e; rw [Int.sub_zero, ho] at d2; cases d2
    ·
     omega
   rw [movedF_val we n mv ku kd u2 u3 d2 d3 (by omega) 6 1 (by omega) hku1 (fun _ => hkd1) (by omega)]
   have h := moved_l0 we n mv ku kd l h0 h1 hn hn1 (by omega) (by omega) (by omega) u2 u3 d2 d3 ku.toNat 0 (by omega) (by omega) (by omega)
   rw [Int.add_zero] at h
   refine Ev.congr (fun k => ?_) (Ev.step (g := fun k => tenorref6_moved.j0 k n mv false we l) (fun k => by simp only [tenorref6_moved.j0, Bool.false_eq_true, if_false]) h)
   unfold tenorref6_moved.f
   rw [if_neg hm, off we n l h0 h1, ho]; rfl
theorem nth_l0 (wd k first size : Int) (hk0 : 1 ≤ k) (hk1 : k ≤ 5) (hs0 : 28 ≤ size) (hs1 : size ≤ 31) (hf0 : 0 ≤ first) (hf1 : first ≤ 200000) (hw0 : 0 ≤ wd) (hw1 : wd ≤ 6) :
  ∀ (f : Nat) (j : Int), 0 ≤ j → j ≤ (wd - first % 7 + 7) % 7 → (wd - first % 7 + 7) % 7 - j = f →
  Ev (fun q => tenorref6_nth.l0 q wd k first size (first + j)) (if (wd - first % 7 + 7) % 7 + 7 * (k - 1) ≥ size then first + ((wd - first % 7 + 7) % 7 + 7 * (k - 1) - 7) else first + ((wd - first % 7 + 7) % 7 + 7 * (k - 1)))
 | 0, j, a, b, c => by
  have e : j = (wd - first % 7 + 7) % 7 := by omega
  refine Ev.step (f := fun _ => some _) (fun q => ?_) (Ev.now _)
  simp only [tenorref6_nth.l0]
  rw [← e, tm (by omega), if_pos (by omega)]
  rw [w64 (x := k - 1) (by omega) (by omega), w64 (x := 7 * (k - 1)) (by omega) (by omega), w64 (x := first + j + 7 * (k - 1)) (by omega) (by omega), w64 (x := first + size) (by omega) (by omega), w64 (x := first + j + 7 * (k - 1) - 7) (by omega) (by omega)]
  by_cases h5 : k = 5
  ·
   rw [if_pos h5]
   by_cases hg : first + j + 7 * (k - 1) ≥ first + size
   ·
    rw [if_pos hg, if_pos (by omega)]; congr 1; omega
   ·
    rw [if_neg hg, if_neg (by omega)]; congr 1; omega
  ·
   rw [if_neg h5, if_neg (by omega)]; congr 1; omega
 | f + 1, j, a, b, c => by
  have ih := nth_l0 wd k first size hk0 hk1 hs0 hs1 hf0 hf1 hw0 hw1 f (j + 1) (by omega) (by omega) (by omega)
  refine Ev.step (fun q => ?_) ih
  simp only [tenorref6_nth.l0]
  rw [tm (by omega), if_neg (by omega), w64 (by omega) (by omega), show first + j + 1 = first + (j + 1) from by omega]
theorem nth (y m wd k : Int) (h0 : 1900 ≤ y) (h1 : y ≤ 2199) (hm0 : 1 ≤ m) (hm1 : m ≤ 12) (hk0 : 1 ≤ k) (hk1 : k ≤ 5) (hw0 : 0 ≤ wd) (hw1 : wd ≤ 6) : Ev (fun q => tenorref6_nth.f q y m wd k) (M.nthDay y m wd k) := by
 have hl := M.mlen_rng y m
 have hd : M.isDate y m 1 := ⟨h0, h1, hm0, hm1, by omega, by omega⟩
 have hr := M.day_rng hd;have ho := Of y m 1
 rw [if_pos hd] at ho
 have hL := Length y m
 rw [if_pos ⟨h0, h1, hm0, hm1⟩] at hL
 have h := nth_l0 wd k (M.dayOf y m 1) (M.mlen y m) hk0 hk1 hl.1 hl.2 hr.1 (by omega) hw0 hw1 ((wd - M.dayOf y m 1 % 7 + 7) % 7).toNat 0 (by omega) (by omega) (by omega)
 rw [Int.add_zero] at h
 exact Ev.congr (fun q => rfl) (Ev.bind (f := fun q (t : Int × Int) => (tenorref5_Length.f q y m).bind fun (s : Int × Int) => tenorref6_nth.l0 q wd k t.1 s.1 t.1) ho (Ev.bind (f := fun q (s : Int × Int) => tenorref6_nth.l0 q wd k (M.dayOf y m 1) s.1 (M.dayOf y m 1)) hL h))
theorem day (we : Int) (l : List S63) (a0 a1 a2 a3 a4 a5 a6 a7 a8 y : Int) (h0 : 0 ≤ we) (h1 : we ≤ 126) (hm : M.may ⟨a0, a1, a2, a3, a4, a5, a6, a7, a8⟩ = true) (h4 : ¬ a0 = 4) :
  ∃ p : Int × Bool, Ev (fun k => tenorref6_day.f k we l a0 a1 a2 a3 a4 a5 a6 a7 a8 y) p ∧ ∀ x, M.gives we ⟨a0, a1, a2, a3, a4, a5, a6, a7, a8⟩ y x = (p.2 && decide (p.1 = x)) := by
 have hyr := M.may_years hm h4
 simp only at hyr
 by_cases hi : a6 ≤ y ∧ y ≤ a7
 ·
  have hy0 : 1900 ≤ y := by omega
  have hy1 : y ≤ 2199 := by omega
  have start : ∀ p, Ev (fun k => tenorref6_day.j0 k y false we l a0 a1 a2 a3 a4 a5 a6 a7 a8) p → Ev (fun k => tenorref6_day.f k we l a0 a1 a2 a3 a4 a5 a6 a7 a8 y) p := by
   intro p h
   refine Ev.congr (fun k => ?_) h
   unfold tenorref6_day.f
   rw [if_neg (by omega), show decide (y > a7) = false from decide_eq_false (by omega)]
  have hin : (⟨a0, a1, a2, a3, a4, a5, a6, a7, a8⟩ : M.Rul).kind = 4 ∨ ((⟨a0, a1, a2, a3, a4, a5, a6, a7, a8⟩ : M.Rul).from_ ≤ y ∧ y ≤ (⟨a0, a1, a2, a3, a4, a5, a6, a7, a8⟩ : M.Rul).to_) := .inr hi
  by_cases k1 : a0 = 1
  ·
   subst k1
   have hm1 : 1 ≤ a1 ∧ a1 ≤ 12 ∧ 1 ≤ a2 := by simp [M.may] at hm; omega
   have ho := Of y a1 a2
   by_cases hd : M.isDate y a1 a2
   ·
    rw [if_pos hd] at ho
    have hr := M.day_rng hd
    have hrd : M.rday ⟨1, a1, a2, a3, a4, a5, a6, a7, a8⟩ y = some (M.dayOf y a1 a2) := by unfold M.rday; rw [if_pos rfl]; simp only; rw [if_pos hd.2.2.2.2.2]
    refine ⟨(M.moved we (M.dayOf y a1 a2) a8, true), start _ ?_, fun x => ?_⟩
    ·
     refine Ev.step (fun k => ?_) (Ev.bind (f := fun k (t : Int × Int) => if t.2 = 0 then (tenorref6_moved.f k we l t.1 a8).bind fun s => some (s, true) else some (0, false)) ho ?_)
     ·
      simp only [tenorref6_day.j0, Bool.false_eq_true, if_false, if_true]
     ·
      exact Ev.congr (fun k => if_pos rfl) (Ev.bind (f := fun _ s => some (s, true)) (moved we _ a8 l h0 h1 (by omega) (by omega)) (Ev.now _))
    ·
     unfold M.gives; rw [if_pos hin, hrd]; simp
   ·
    rw [if_neg hd] at ho
    have hrd : M.rday ⟨1, a1, a2, a3, a4, a5, a6, a7, a8⟩ y = none := by
     unfold M.rday; rw [if_pos rfl]; simp only
     rw [if_neg (fun h => hd ⟨hy0, hy1, hm1.1, hm1.2.1, hm1.2.2, h⟩)]
    refine ⟨(0, false), start _ ?_, fun x => ?_⟩
    ·
     refine Ev.step (fun k => ?_) (Ev.bind (f := fun k (t : Int × Int) => if t.2 = 0 then (tenorref6_moved.f k we l t.1 a8).bind fun s => some (s, true) else some (0, false)) ho ?_)
     ·
      simp only [tenorref6_day.j0, Bool.false_eq_true, if_false, if_true]
     ·
      exact Ev.congr (fun k => if_neg (by decide)) (Ev.now _)
    ·
     unfold M.gives; rw [if_pos hin, hrd]; simp
  by_cases k2 : a0 = 2
  ·
   subst k2
   have hm1 : 1 ≤ a1 ∧ a1 ≤ 12 ∧ 0 ≤ a4 ∧ a4 ≤ 6 ∧ 1 ≤ a3 ∧ a3 ≤ 5 := by simp [M.may] at hm; omega
   have hrd : M.rday ⟨2, a1, a2, a3, a4, a5, a6, a7, a8⟩ y = some (M.nthDay y a1 a4 a3) := rfl
   have hn := nth y a1 a4 a3 hy0 hy1 hm1.1 hm1.2.1 hm1.2.2.2.2.1 hm1.2.2.2.2.2 hm1.2.2.1 hm1.2.2.2.1;have hr := M.rday_near hm hy0 hy1 hrd
   have hb := L.before_rng y (by omega) (by omega)
   have hb2 := L.before_rng (y + 1) (by omega) (by omega)
   refine ⟨(M.moved we (M.nthDay y a1 a4 a3) a8, true), start _ ?_, fun x => ?_⟩
   ·
    refine Ev.step (fun k => ?_) (Ev.bind (f := fun k t => (tenorref6_moved.f k we l t a8).bind fun s => some (s, true)) hn (Ev.bind (f := fun _ s => some (s, true)) (moved we _ a8 l h0 h1 (by omega) (by omega)) (Ev.now _)))
    simp only [tenorref6_day.j0, Bool.false_eq_true, if_false, show ¬ ((2 : Int) = 1) from by decide, if_true]
   ·
    unfold M.gives; rw [if_pos hin, hrd]; simp
  by_cases k3 : a0 = 3
  ·
   subst k3
   have hm1 : -100 ≤ a5 ∧ a5 ≤ 100 := by simp [M.may] at hm; omega
   have hrd : M.rday ⟨3, a1, a2, a3, a4, a5, a6, a7, a8⟩ y = some (M.easterDay y + a5) := rfl
   have hr := M.rday_near hm hy0 hy1 hrd
   have hb := L.before_rng y (by omega) (by omega)
   have hb2 := L.before_rng (y + 1) (by omega) (by omega)
   refine ⟨(M.moved we (M.easterDay y + a5) a8, true), start _ ?_, fun x => ?_⟩
   ·
    refine Ev.step (fun k => ?_) (Ev.bind (f := fun _ s => some (s, true)) (moved we (M.easterDay y + a5) a8 l h0 h1 (by omega) (by omega)) (Ev.now _))
    simp only [tenorref6_day.j0, Bool.false_eq_true, if_false, show ¬ ((3 : Int) = 1) from by decide, show ¬ ((3 : Int) = 2) from by decide, if_true]
    unfold tenorref5_Easter.f H.easterF
    rw [if_pos ⟨hy0, hy1⟩]
    simp only [Option.bind_some]
    rw [w64 (by omega) (by omega)]
   ·
    unfold M.gives; rw [if_pos hin, hrd]; simp
  ·
   unfold M.may at hm
   simp [k1, k2, k3, h4] at hm
 ·
  refine ⟨(0, false), ?_, fun x => ?_⟩
  ·
   refine Ev.congr (fun k => ?_) (Ev.step (g := fun k => tenorref6_day.j0 k y true we l a0 a1 a2 a3 a4 a5 a6 a7 a8) (f := fun _ => some ((0 : Int), false)) (fun k => by simp only [tenorref6_day.j0, if_true]) (Ev.now _))
   unfold tenorref6_day.f
   by_cases h2 : y < a6
   ·
    rw [if_pos h2]
   ·
    rw [if_neg h2, show decide (y > a7) = true from decide_eq_true (by omega)]
  ·
   unfold M.gives
   rw [if_neg (by simp only; intro h; rcases h with h | h; exact h4 h; exact hi h)]; rfl
theorem holiday_l1 (we : Int) (l : List S63) (x : Int) (a0 a1 a2 a3 a4 a5 a6 a7 a8 Y u v i : Int) (h0 : 0 ≤ we) (h1 : we ≤ 126) (hm : M.may ⟨a0, a1, a2, a3, a4, a5, a6, a7, a8⟩ = true) (h4 : ¬ a0 = 4) (hY : 1900 ≤ Y) (hY1 : Y ≤ 2199) (ans : Bool)
  (hrest : Ev (fun k => tenorref6_holiday.l0 k x (wrap64 (i + 1)) we l Y u v) ans) :
  ∀ (f : Nat) (y : Int), Y - 1 ≤ y → Y + 2 - y = f → Ev (fun k => tenorref6_holiday.l1 k x i y we l Y u v a0 a1 a2 a3 a4 a5 a6 a7 a8) ((decide (y ≤ Y + 1) && M.gives we ⟨a0, a1, a2, a3, a4, a5, a6, a7, a8⟩ y x) || (decide (y + 1 ≤ Y + 1) && M.gives we ⟨a0, a1, a2, a3, a4, a5, a6, a7, a8⟩ (y + 1) x) || (decide (y + 2 ≤ Y + 1) && M.gives we ⟨a0, a1, a2, a3, a4, a5, a6, a7, a8⟩ (y + 2) x) || ans)
 | 0, y, a, b => by
  rw [show decide (y ≤ Y + 1) = false from decide_eq_false (by omega), show decide (y + 1 ≤ Y + 1) = false from decide_eq_false (by omega), show decide (y + 2 ≤ Y + 1) = false from decide_eq_false (by omega),
   Bool.false_and, Bool.false_and, Bool.false_and, Bool.false_or, Bool.false_or, Bool.false_or]
  refine Ev.step (fun k => ?_) hrest
  simp only [tenorref6_holiday.l1]
  rw [w64 (x := Y + 1) (by omega) (by omega), if_neg (by omega)]
 | f + 1, y, a, b => by
  have ih := holiday_l1 we l x a0 a1 a2 a3 a4 a5 a6 a7 a8 Y u v i h0 h1 hm h4 hY hY1 ans hrest f (y + 1) (by omega) (by omega)
  obtain ⟨p, hp, hg⟩ := day we l a0 a1 a2 a3 a4 a5 a6 a7 a8 y h0 h1 hm h4
  refine Ev.step (fun k => ?_) (Ev.bind (f := fun k (t : Int × Bool) => if t.2 = true then (if t.1 = x then some true else tenorref6_holiday.l1 k x i (y + 1) we l Y u v a0 a1 a2 a3 a4 a5 a6 a7 a8) else tenorref6_holiday.l1 k x i (y + 1) we l Y u v a0 a1 a2 a3 a4 a5 a6 a7 a8) hp ?_)
  ·
   simp only [tenorref6_holiday.l1]
   rw [w64 (x := Y + 1) (by omega) (by omega), if_pos (by omega), w64 (x := y + 1) (by omega) (by omega)]
  ·
   rw [show decide (y ≤ Y + 1) = true from decide_eq_true (by omega), Bool.true_and, hg x]
   have e3 : (decide (y + 1 + 2 ≤ Y + 1)) = false := decide_eq_false (by omega)
   rw [e3, Bool.false_and, Bool.or_false, show y + 1 + 1 = y + 2 from by omega] at ih
   by_cases h2 : p.2 = true
   ·
    by_cases h3 : p.1 = x
    ·
     refine Ev.congr (f := fun _ => some true) (fun k => by rw [if_pos h2, if_pos h3]) ?_
     rw [h2, decide_eq_true h3, Bool.true_and, Bool.true_or, Bool.true_or, Bool.true_or]
     exact Ev.now _
    ·
     refine Ev.congr (fun k => by rw [if_pos h2, if_neg h3]) ?_
     rw [decide_eq_false h3, Bool.and_false, Bool.false_or]
     exact ih
   ·
    have h2' : p.2 = false := by simpa using h2
    refine Ev.congr (fun k => by rw [if_neg h2]) ?_
    rw [h2', Bool.false_and, Bool.false_or]
    exact ih
theorem gives_4 (we a1 a2 a3 a4 a5 a6 a7 a8 x : Int) (hm : M.may ⟨4, a1, a2, a3, a4, a5, a6, a7, a8⟩ = true) (hx : M.isDay x) :
  (M.gives we ⟨4, a1, a2, a3, a4, a5, a6, a7, a8⟩ (M.civY x - 1) x || M.gives we ⟨4, a1, a2, a3, a4, a5, a6, a7, a8⟩ (M.civY x) x || M.gives we ⟨4, a1, a2, a3, a4, a5, a6, a7, a8⟩ (M.civY x + 1) x) = decide (a2 = x) := by
 have hmv : a8 = 0 := by simp [M.may] at hm; omega
 subst hmv
 have hg : ∀ y, M.gives we ⟨4, a1, a2, a3, a4, a5, a6, a7, 0⟩ y x = (decide (M.civY a2 = y) && decide (a2 = x)) := by
  intro y
  unfold M.gives M.rday
  rw [if_pos (.inl rfl)]
  simp only [show ¬ ((4 : Int) = 1) from by decide, show ¬ ((4 : Int) = 2) from by decide, show ¬ ((4 : Int) = 3) from by decide, if_false]
  by_cases h : M.civY a2 = y
  ·
   rw [if_pos h]; simp [h, H.moved_0]
  ·
   rw [if_neg h]; simp [h]
 rw [hg, hg, hg]
 by_cases e : a2 = x
 ·
  subst e; simp
 ·
  simp [e]
theorem holiday_l0 (we : Int) (l : List S63) (x u v : Int) (h0 : 0 ≤ we) (h1 : we ≤ 126) (hm : ∀ r ∈ l, M.may (H.ru r) = true) (hlen : l.length ≤ 64) (hx : M.isDay x) :
  ∀ (f i : Nat), i ≤ l.length → l.length - i = f → Ev (fun k => tenorref6_holiday.l0 k x (i : Int) we l (M.civY x) u v) (M.hol we ((l.drop i).map H.ru) x)
 | 0, i, a, b => by
  have e : i = l.length := by omega
  refine Ev.step (f := fun _ => some (M.hol we ((l.drop i).map H.ru) x)) (fun k => ?_) (Ev.now _)
  simp only [tenorref6_holiday.l0]
  rw [if_neg (by omega), e, List.drop_length]; rfl
 | f + 1, i, a, b => by
  have hlt : i < l.length := by omega
  have ih := holiday_l0 we l x u v h0 h1 hm hlen hx f (i + 1) (by omega) (by omega)
  have hmi := hm l[i] (List.getElem_mem hlt)
  have hy := M.yearOf_spec x hx.1 hx.2
  have hy0 : 1900 ≤ M.civY x := hy.1
  have hy1 : M.civY x ≤ 2199 := hy.2.1
  rw [List.drop_eq_getElem_cons hlt, List.map_cons]
  have c1 : (i : Int) < (l.length : Int) := by omega
  have c2 : (0 : Int) ≤ (i : Int) := by omega
  have hw2 : wrap64 (M.civY x - 1) = M.civY x - 1 := w64 (by omega) (by omega)
  have hw : wrap64 ((i : Int) + 1) = ((i + 1 : Nat) : Int) := by rw [w64 (by omega) (by omega)]; push_cast; rfl
  have hcons : M.hol we (H.ru l[i] :: (l.drop (i + 1)).map H.ru) x = ((M.gives we (H.ru l[i]) (M.civY x - 1) x || M.gives we (H.ru l[i]) (M.civY x) x || M.gives we (H.ru l[i]) (M.civY x + 1) x) || M.hol we ((l.drop (i + 1)).map H.ru) x) := by
   simp [M.hol]
  rw [hcons]
  have hl0 : ∀ k, tenorref6_holiday.l0 (k + 1) x (i : Int) we l (M.civY x) u v = (if (l[i].f0) = 4 then (if (l[i].f2) = x then (some true) else (tenorref6_holiday.l0 k x (((i + 1 : Nat) : Int)) we l (M.civY x) u v)) else (tenorref6_holiday.l1 k x i (M.civY x - 1) we l (M.civY x) u v l[i].f0 l[i].f1 l[i].f2 l[i].f3 l[i].f4 l[i].f5 l[i].f6 l[i].f7 l[i].f8)) := by
   intro k
   rw [tenorref6_holiday.l0]
   rw [if_pos c1, if_pos c2, rd_eq l i hlt, hw, hw2]
  generalize l[i] = r at hmi hl0 ⊢
  obtain ⟨a0, a1, a2, a3, a4, a5, a6, a7, a8⟩ := r
  simp only [H.ru] at hmi hl0 ⊢
  by_cases k4 : a0 = 4
  ·
   subst k4
   rw [gives_4 we a1 a2 a3 a4 a5 a6 a7 a8 x hmi hx]
   by_cases h2 : a2 = x
   ·
    rw [decide_eq_true h2, Bool.true_or]
    refine Ev.step (f := fun _ => some true) (fun k => ?_) (Ev.now _)
    rw [hl0 k, if_pos rfl, if_pos h2]
   ·
    rw [decide_eq_false h2, Bool.false_or]
    refine Ev.step (fun k => ?_) ih
    rw [hl0 k, if_pos rfl, if_neg h2]
  ·
   have h := holiday_l1 we l x a0 a1 a2 a3 a4 a5 a6 a7 a8 (M.civY x) u v i h0 h1 hmi k4 hy0 hy1 _ (by rw [hw]; exact ih) 3 (M.civY x - 1) (by omega) (by omega)
   rw [show decide (M.civY x - 1 ≤ M.civY x + 1) = true from decide_eq_true (by omega), show decide (M.civY x - 1 + 1 ≤ M.civY x + 1) = true from decide_eq_true (by omega), show decide (M.civY x - 1 + 2 ≤ M.civY x + 1) = true from decide_eq_true (by omega),
    show M.civY x - 1 + 1 = M.civY x from by omega, show M.civY x - 1 + 2 = M.civY x + 1 from by omega] at h
   simp only [Bool.true_and] at h
   exact Ev.step (fun k => by rw [hl0 k, if_neg k4]) h
theorem holiday (we : Int) (l : List S63) (x : Int) (h0 : 0 ≤ we) (h1 : we ≤ 126) (hm : ∀ r ∈ l, M.may (H.ru r) = true) (hlen : l.length ≤ 64) (hx : M.isDay x) : Ev (fun k => tenorref6_holiday.f k we l x) (M.hol we (l.map H.ru) x) := by
 have hc := Civil x
 rw [if_pos (show 0 ≤ x ∧ x ≤ 109572 from hx)] at hc
 have h := holiday_l0 we l x (M.civM x) (M.civD x) h0 h1 hm hlen hx l.length 0 (by omega) (by omega)
 exact Ev.congr (fun k => rfl) (Ev.bind (f := fun k (t : Int × Int × Int × Int) => tenorref6_holiday.l0 k x 0 we l t.1 t.2.1 t.2.2.1) hc h)
end Go.Proofs.Ytoncignjcgjhhaa.R
namespace Go.Proofs.Ytoncignjcgjhhaa.H
open Go.RowKit Go.Maps Go.Proofs.YtoncignjcgjhhaaW.PrintWords Go.Proofs.YtoncignjcgjhhaaW.PrintLast Go.Proofs.YtoncignjcgjhhaaW.PrintMore
open Go.Proofs.Ytoncignjcgjhhaa.Q (S63 k63 z63)
attribute [local go_sem] max2_int min2_int
end Go.Proofs.Ytoncignjcgjhhaa.H
namespace Go.Proofs.Ytoncignjcgjhhaa.Q
open Go.RowKit Go.Proofs.YtoncignjcgjhhaaW.PrintWords Go.Proofs.YtoncignjcgjhhaaW.PrintLast Go.Proofs.YtoncignjcgjhhaaW.PrintMore
attribute [local go_sem] max2_int min2_int max_two min_two max_three min_three max_four min_four   -- for this text's walks alone
end Go.Proofs.Ytoncignjcgjhhaa.Q
namespace Go.Proofs.Ytoncignjcgjhhaa.Q
open Go.RowKit Go.Proofs.YtoncignjcgjhhaaW.PrintWords Go.Proofs.YtoncignjcgjhhaaW.PrintLast Go.Proofs.YtoncignjcgjhhaaW.PrintMore
attribute [local go_sem] max2_int min2_int max_two min_two max_three min_three max_four min_four   -- for this text's walks alone
def tenorref6_open.f (k : Nat) (a0_0 : Int) (l0_1 : List (S63)) (a1 : Int) : Option (Bool) := (tenorref6_off.f a0_0 l0_1 a1).bind fun t230 => (if t230 = true then (some false) else ((tenorref6_holiday.f k a0_0 l0_1 a1).bind fun t231 => (some (!t231))))
set_option maxHeartbeats 8000000 in
set_option maxRecDepth 100000 in
theorem tenorref6_open.calls (k : Nat) (a0_0 : Int) (A0_1 : Option Addr) (c0_1 : Nat) (l0_1 : List (S63)) (a1 : Int) (r : Bool) (w : World) (hr0_1 : Kd.C k63 w A0_1 l0_1.length l0_1) (hc0_1 : l0_1.length ≤ c0_1) (h : tenorref6_open.f k a0_0 l0_1 a1 = some r) :
  Calls Try.prog 74 #[.agg #[.int .i64 a0_0, .slice A0_1 l0_1.length c0_1], .int .i64 a1] w fun e w' => e = .returned (.bool r) ∧ Below w.heap.size w w' := by
 have hu24 := Try.underlying24;have HR0_1 := Aside0.mk hr0_1;have HC0_1 := Aside0.mk hc0_1;clear hr0_1 hc0_1
 have HB := Aside0.mk (Below.refl w.heap.size w)
 have H : ((tenorref6_off.f a0_0 l0_1 a1).bind fun t230 => (if t230 = true then (some false) else ((tenorref6_holiday.f k a0_0 l0_1 a1).bind fun t231 => (some (!t231))))) = some r := h
 clear h;replace H := Option.bind_eq_some_iff.mp H
 obtain ⟨t230, A30, H⟩ := H
 replace H : (if t230 = true then (some false) else ((tenorref6_holiday.f k a0_0 l0_1 a1).bind fun t231 => (some (!t231)))) = some r := H
 have A3 := Aside0.mk A30;clear A30
 by_cases c4 : t230 = true
 ·
  subst c4
  have H1 : (some false) = some r := by rw [if_pos rfl] at H; exact H
  clear H;have H := H1;clear H1
  obtain rfl := Option.some.inj H
  go_enter Try.func74, Try.ntmps74
  go_wp2_with (first | ((with_reducible refine gate_dst (N := 2) rfl ?_); refine box_event ?hg (N := 2) ?hd (cs := #[.int .i64 a0_0, .slice A0_1 l0_1.length c0_1]) (t := 24) ?hr ?_; (case hd => rfl); (case hg => rfl); (case hr => first | (go_simp; done) | (go_simp; rfl)); intro gb229 hg w5 hbox hb; have BK229 := Aside0.mk (hbox); have GW229 := bG hg; have GE229 := bG hg; replace HB := bS hb; clear hb hbox hg; obtain ⟨_,_,_,_⟩ := blk2 BK229) | ((with_reducible refine gG 108 ?_); refine goA (some 7) Try.func108 #[.agg #[.int .i64 a0_0, .slice A0_1 l0_1.length c0_1], .int .i64 a1] ?_; (with_reducible refine (tenorref6_off.calls a0_0 _ _ l0_1 a1 true _ ?side1 ?side2 A3.out).mono ?_); (case side1 => exact sC HR0_1); (case side2 => exact HC0_1.out); rintro e w7 ⟨rfl, hb⟩; refine ⟨_, rfl, ?_⟩; replace BK229 := bK BK229 hb; replace HB := bS hb; (try clear hb); (try clear hb2); (try clear hk); (try clear hi)))
  go_ret
  exact ⟨eW, bB⟩
 ·
  replace c4 := Bool.eq_false_iff.mpr c4;subst c4
  have H1 : ((tenorref6_holiday.f k a0_0 l0_1 a1).bind fun t231 => (some (!t231))) = some r := by rw [if_neg (show ¬ (false = true) by decide)] at H; exact H
  clear H;have H := H1;clear H1;replace H := Option.bind_eq_some_iff.mp H
  obtain ⟨t231, A80, H⟩ := H
  replace H : (some (!t231)) = some r := H
  have A8 := Aside0.mk A80;clear A80
  obtain rfl := Option.some.inj H
  go_enter Try.func74, Try.ntmps74
  go_wp2_with (first | ((with_reducible refine gate_dst (N := 2) rfl ?_); refine box_event ?hg (N := 2) ?hd (cs := #[.int .i64 a0_0, .slice A0_1 l0_1.length c0_1]) (t := 24) ?hr ?_; (case hd => rfl); (case hg => rfl); (case hr => first | (go_simp; done) | (go_simp; rfl)); intro gb229 hg w9 hbox hb; have BK229 := Aside0.mk (hbox); have GW229 := bG hg; have GE229 := bG hg; replace HB := bS hb; clear hb hbox hg; obtain ⟨_,_,_,_⟩ := blk2 BK229) | ((with_reducible refine gG 108 ?_); refine goA (some 7) Try.func108 #[.agg #[.int .i64 a0_0, .slice A0_1 l0_1.length c0_1], .int .i64 a1] ?_; (with_reducible refine (tenorref6_off.calls a0_0 _ _ l0_1 a1 false _ ?side1 ?side2 A3.out).mono ?_); (case side1 => exact sC HR0_1); (case side2 => exact HC0_1.out); rintro e w11 ⟨rfl, hb⟩; refine ⟨_, rfl, ?_⟩; replace BK229 := bK BK229 hb; replace HB := bS hb; (try clear hb); (try clear hb2); (try clear hk); (try clear hi); obtain ⟨_,_,_,_⟩ := blk2 BK229) | (go_at_call 76; (with_reducible refine (tenorref6_holiday.calls k a0_0 _ _ l0_1 a1 t231 _ ?side1 ?side2 A8.out).mono ?_); (case side1 => exact sC HR0_1); (case side2 => exact HC0_1.out); rintro e w13 ⟨rfl, hb⟩; replace BK229 := bK BK229 hb; replace HB := bS hb; (try clear hb); (try clear hb2); (try clear hk); (try clear hi)))
  go_ret
  exact ⟨eW, bB⟩
def tenorref6_isDay.f (a0 : Int) : Option (Bool) := (tenorref6_in.f a0 0 109572).bind fun t232 => (some t232)
set_option maxHeartbeats 8000000 in
set_option maxRecDepth 100000 in
theorem tenorref6_isDay.calls (a0 : Int) (r : Bool) (w : World) (h : tenorref6_isDay.f a0 = some r) :
  Calls Try.prog 80 #[.int .i64 a0] w fun e w' => e = .returned (.bool r) ∧ Drawn0 w w' := by
 have H : ((tenorref6_in.f a0 0 109572).bind fun t232 => (some t232)) = some r := h
 clear h;replace H := Option.bind_eq_some_iff.mp H
 obtain ⟨t232, A20, H⟩ := H
 replace H : (some t232) = some r := H
 have A2 := Aside0.mk A20;clear A20
 obtain rfl := Option.some.inj H
 go_enter Try.func80, Try.ntmps80
 go_wp2_with (first | ((with_reducible refine gG 79 ?_); refine goA (some 4) Try.func79 #[.int .i64 a0, .int .i64 0, .int .i64 109572] ?_; (with_reducible refine (tenorref6_in.calls a0 0 109572 t232 _ A2.out).mono ?_); rintro e w' ⟨rfl, ⟨nd, rfl⟩⟩; refine ⟨_, rfl, ?_⟩))
 go_ret
 exact ⟨eS, eD⟩
end Go.Proofs.Ytoncignjcgjhhaa.Q
namespace Go.Proofs.Ytoncignjcgjhhaa.Q
open Go.RowKit Go.Proofs.YtoncignjcgjhhaaW.PrintWords Go.Proofs.YtoncignjcgjhhaaW.PrintLast Go.Proofs.YtoncignjcgjhhaaW.PrintMore
attribute [local go_sem] max2_int min2_int max_two min_two max_three min_three max_four min_four   -- for this text's walks alone
end Go.Proofs.Ytoncignjcgjhhaa.Q
namespace Go.Proofs.Ytoncignjcgjhhaa.Q
open Go.RowKit Go.Proofs.YtoncignjcgjhhaaW.PrintWords Go.Proofs.YtoncignjcgjhhaaW.PrintLast Go.Proofs.YtoncignjcgjhhaaW.PrintMore
attribute [local go_sem] max2_int min2_int max_two min_two max_three min_three max_four min_four   -- for this text's walks alone
end Go.Proofs.Ytoncignjcgjhhaa.Q
namespace Go.Proofs.Ytoncignjcgjhhaa.Q
open Go.RowKit Go.Proofs.YtoncignjcgjhhaaW.PrintWords Go.Proofs.YtoncignjcgjhhaaW.PrintLast Go.Proofs.YtoncignjcgjhhaaW.PrintMore
attribute [local go_sem] max2_int min2_int max_two min_two max_three min_three max_four min_four   -- for this text's walks alone
end Go.Proofs.Ytoncignjcgjhhaa.Q
