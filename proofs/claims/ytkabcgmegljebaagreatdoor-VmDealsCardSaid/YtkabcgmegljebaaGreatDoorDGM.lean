/- Contracts and facts of functions of the program, joined in one text. -/
import Derived.Test.YtkabcgmegljebaaGreatDoorDGA
import Derived.Test.YtkabcgmegljebaaGreatDoorDGH
import Derived.Test.YtkabcgmegljebaaGreatDoorDGL
import Derived.Laws.FloatArith
import Derived.Test.YtkabcgmegljebaaGreatDoorDGB
set_option maxHeartbeats 8000000
set_option maxRecDepth 100000
set_option linter.unusedVariables false
set_option linter.unusedSimpArgs false
namespace Go.Proofs.YtkabcgmegljebaaGreatDoor.Q
open Go.RowKit Go.Proofs.YtkabcgmegljebaaGreatDoorW.PrintWords Go.Proofs.YtkabcgmegljebaaGreatDoorW.PrintLast Go.Proofs.YtkabcgmegljebaaGreatDoorW.PrintMore
attribute [local go_sem] xcP xcM xcY xcX xcF xcE xcN xcL
mutual
def xaL.j0 : Nat → Int → Int → Int → Int → Int → Bool → Int → List (S214) → Option (Int × Int × Int)
  | 0, _, _, _, _, _, _, _, _ => none
  | k + 1, x0, x2, x3, x8, x10, x19, x993000, x993001 => if x19 = true then (some (0, 0, 70)) else (if x0 = 6 then ((xcR.f x993000 x993001).bind fun bt993 => (if bt993.1 = 0 then (xaL.j1 k x0 x2 x3 x8 x10 x993000 x993001) else (some (0, 0, bt993.1)))) else (xaL.j1 k x0 x2 x3 x8 x10 x993000 x993001))
def xaL.j1 : Nat → Int → Int → Int → Int → Int → Int → List (S214) → Option (Int × Int × Int)
  | 0, _, _, _, _, _, _, _ => none
  | k + 1, x0, x2, x3, x8, x10, x993000, x993001 => (xdT.f x2).bind fun t995 => (if t995 = true then ((xdT.f x3).bind fun t996 => (xaL.j2 k x0 x2 x3 x8 x10 (!t996) x993000 x993001)) else (xaL.j2 k x0 x2 x3 x8 x10 true x993000 x993001))
def xaL.j2 : Nat → Int → Int → Int → Int → Int → Bool → Int → List (S214) → Option (Int × Int × Int)
  | 0, _, _, _, _, _, _, _, _ => none
  | k + 1, x0, x2, x3, x8, x10, x37, x993000, x993001 => if x37 = true then (some (0, 0, 51)) else (if x3 < x2 then ((xaL.f k x0 x993000 x993001 x3 x2).bind fun bt997 => (some (wrap64 (-bt997.1), bt997.2.1, bt997.2.2))) else (if x0 = 2 then (some (wrap64 (x3 - x2), 365, x10)) else (if x0 = 1 then (some (wrap64 (x3 - x2), 360, x10)) else (if x0 = 3 then ((xbN.f k x3).bind fun t1004 => ((xbN.f k x2).bind fun t1005 => (some (wrap64 ((wrap64 (366 * (wrap64 ((wrap64 (x3 - x2)) - (wrap64 (t1004 - t1005)))))) + (wrap64 (365 * (wrap64 (t1004 - t1005))))), 133590, x10)))) else (if x0 = 5 then ((xcQ.f k x2 x3 true).bind fun t1000 => (some (t1000, 360, x10))) else (if x0 = 4 then ((xcQ.f k x2 x3 false).bind fun t1001 => (some (t1001, 360, x10))) else (if x0 = 6 then ((xeT.f x993000 x993001 x2 x3).bind fun bt1002 => (some (bt1002.1, 252, bt1002.2))) else (some (x8, 360, x10)))))))))
def xaL.f : Nat → Int → Int → List (S214) → Int → Int → Option (Int × Int × Int)
  | 0, _, _, _, _, _ => none
  | k + 1, a0, a1_0, l1_1, a2, a3 => if a0 < 1 then (xaL.j0 k a0 a2 a3 0 0 true a1_0 l1_1) else (xaL.j0 k a0 a2 a3 0 0 (decide (a0 > 6)) a1_0 l1_1)
end
theorem xaL.calls (k : Nat) : ∀ (a0 a1_0 : Int) (A1_1 : Option Addr) (c1_1 : Nat) (l1_1 : List (S214)) (a2 a3 r1 r2 r3 : Int) (w : World) (hr1_1 : Kd.C k214 w A1_1 l1_1.length l1_1) (hc1_1 : l1_1.length ≤ c1_1) (h : xaL.f k a0 a1_0 l1_1 a2 a3 = some (r1, r2, r3)),
  Calls Tryz.prog 165 #[.int .i64 a0, .agg #[.int .i64 a1_0, .slice A1_1 l1_1.length c1_1], .int .i64 a2, .int .i64 a3] w fun e w' => e = .returned (.tuple #[.int .i64 r1, .int .i64 r2, .int .i64 r3]) ∧ Below w.heap.size w w' := by
 induction k using Nat.strongRecOn with
 | _ k ih =>
 intro a0 a1_0 A1_1 c1_1 l1_1 a2 a3 r1 r2 r3 w hr1_1 hc1_1 h
 cases k with
 | zero => exact absurd h (by simp [xaL.f])
 | succ k =>
 simp only [xaL.f] at h
 have hu115 := Tryz.underlying115;have HR1_1 := Aside0.mk hr1_1;have HC1_1 := Aside0.mk hc1_1;clear hr1_1 hc1_1
 have HB := Aside0.mk (Below.refl w.heap.size w)
 have H : (if a0 < 1 then (xaL.j0 k a0 a2 a3 0 0 true a1_0 l1_1) else (xaL.j0 k a0 a2 a3 0 0 (decide (a0 > 6)) a1_0 l1_1)) = some (r1, r2, r3) := h
 clear h;have HC5 := Aside0.mk H;clear H
 go_enter Tryz.func165, Tryz.ntmps165
 go_upto_region 1 with (first | ((with_reducible refine xaU (N := 5) rfl ?_); refine xaT ?hg (N := 5) ?hd (cs := #[.int .i64 a1_0, .slice A1_1 l1_1.length c1_1]) (t := 115) ?hr ?_; (case hd => rfl); (case hg => rfl); (case hr => first | (go_simp; done) | (go_simp; rfl)); intro gb992 hg w6 hbox hb; have BK992 := Aside0.mk (hbox); have GW992 := bG hg; have GE992 := bG hg; replace HB := bS hb; clear hb hbox hg))
 (try simp only [Act.put, List.setIfInBounds_toArray, List.set_cons_zero, List.set_cons_succ])
 go_cut [19] (fun v19 wc => ∃ (kq : Nat) (x19_4 : Bool), v19 = .bool x19_4 ∧ Aside0 (xaL.j0 kq a0 a2 a3 0 0 x19_4 a1_0 l1_1 = some (r1, r2, r3)) ∧ Aside0 (kq ≤ k) ∧ Aside0 (wc.heap[gb992]? = some (.cells #[.int .i64 a1_0, (.slice A1_1 l1_1.length c1_1)] 115 (0, 0))) ∧ Aside0 (Below w.heap.size w wc))
 case first =>
  have H := HC5.out;clear HC5
  by_cases c7 : a0 < 1
  ·
   rw [if_pos c7] at H
   have c7b0 : decide (a0 < 1) = true := decide_eq_true c7
   clear c7
   (first | rw [c7b0] | (simp only [i64_w, i32_w]; rw [c7b0]) | skip)
   have H' := Aside0.mk H;clear H
   go_wp2
   go_meet
   case rel => exact ⟨_, (true), eS, H', ⟨eN⟩, ⟨(bk BK992)⟩, ⟨bB⟩⟩
  ·
   rw [if_neg c7] at H
   have c7b0 : decide (a0 < 1) = false := decide_eq_false c7
   clear c7
   (first | rw [c7b0] | (simp only [i64_w, i32_w]; rw [c7b0]) | skip)
   have H' := Aside0.mk H;clear H
   go_wp2
   go_meet
   case rel => exact ⟨_, (decide (a0 > 6)), eS, H', ⟨eN⟩, ⟨(bk BK992)⟩, ⟨bB⟩⟩
 case rest =>
  clear HC5
  obtain ⟨kq, x19_4, rfl, HA, HJ4, BK992, HB⟩ := hcut
  cases kq with
  | zero => exact absurd HA.out (by simp [xaL.j0])
  | succ kj4 =>
   have H := HA.out;clear HA
   simp only [xaL.j0] at H
   by_cases c8 : x19_4 = true
   ·
    subst c8
    have H1 : (some (0, 0, 70)) = some (r1, r2, r3) := by rw [if_pos rfl] at H; exact H
    clear H;have H := H1;clear H1
    simp only [Option.some.injEq, Prod.mk.injEq] at H
    obtain ⟨rfl, rfl, rfl⟩ := H
    go_wp2
    go_ret3
    exact ⟨eW, bB⟩
   ·
    replace c8 := Bool.eq_false_iff.mpr c8;subst c8
    have H1 : (if a0 = 6 then ((xcR.f a1_0 l1_1).bind fun bt993 => (if bt993.1 = 0 then (xaL.j1 kj4 a0 a2 a3 0 0 a1_0 l1_1) else (some (0, 0, bt993.1)))) else (xaL.j1 kj4 a0 a2 a3 0 0 a1_0 l1_1)) = some (r1, r2, r3) := by rw [if_neg (show ¬ (false = true) by decide)] at H; exact H
    clear H;have H := H1;clear H1;have HC9 := Aside0.mk H;clear H
    go_upto_if 21 with (fail)
    go_cut [8, 10] (fun v8 v10 wc => ∃ (kq : Nat) (x8_8 : Int) (x10_8 : Int), v8 = .int .i64 x8_8 ∧ v10 = .int .i64 x10_8 ∧ Aside0 (xaL.j1 kq a0 a2 a3 x8_8 x10_8 a1_0 l1_1 = some (r1, r2, r3)) ∧ Aside0 (kq ≤ kj4) ∧ Aside0 (wc.heap[gb992]? = some (.cells #[.int .i64 a1_0, (.slice A1_1 l1_1.length c1_1)] 115 (0, 0))) ∧ Aside0 (Below w.heap.size w wc))
    case first =>
     have H := HC9.out;clear HC9
     by_cases c10 : a0 = 6
     ·
      rw [if_pos c10] at H
      have c10b0 : (a0 == 6) = true := beq_iff_eq.mpr c10
      have c10b1 : (a0 != 6) = false := bne_eq_false_iff_eq.mpr c10
      clear c10
      (first | rw [c10b0] | (simp only [i64_w, i32_w]; rw [c10b0]) | skip)
      replace H := Option.bind_eq_some_iff.mp H
      obtain ⟨⟨t993, t994⟩, A110, H⟩ := H
      replace H : (if t993 = 0 then (xaL.j1 kj4 a0 a2 a3 0 0 a1_0 l1_1) else (some (0, 0, t993))) = some (r1, r2, r3) := H
      have A11 := Aside0.mk A110;clear A110
      by_cases c12 : t993 = 0
      ·
       rw [if_pos c12] at H
       have c12b0 : (t993 == 0) = true := beq_iff_eq.mpr c12
       have c12b1 : (t993 != 0) = false := bne_eq_false_iff_eq.mpr c12
       clear c12;have H' := Aside0.mk H;clear H
       obtain ⟨_,_,_,_⟩ := blk2 BK992
       go_wp2_with (first | ((with_reducible refine gG 178 ?_); refine goA (some 24) Tryz.func178 #[.agg #[.int .i64 a1_0, .slice A1_1 l1_1.length c1_1]] ?_; (with_reducible refine (xcR.calls a1_0 _ _ l1_1 t993 t994 _ ?side1 ?side2 A11.out).mono ?_); (case side1 => exact sC HR1_1); (case side2 => exact HC1_1.out); rintro e w14 ⟨rfl, hb⟩; refine ⟨_, rfl, ?_⟩; replace BK992 := bK BK992 hb; replace HB := bS hb; (try clear hb); (try clear hb2); (try clear hk); (try clear hi)))
       go_meet
       case rel => exact ⟨_, (0), (0), eS, eS, H', ⟨by have := HJ4.out; first | omega | exact Nat.le_refl _⟩, ⟨(bk BK992)⟩, ⟨bB⟩⟩
      ·
       rw [if_neg c12] at H
       have c12b0 : (t993 == 0) = false := beq_eq_false_iff_ne.mpr c12
       have c12b1 : (t993 != 0) = true := bne_iff_ne.mpr c12
       simp only [Option.some.injEq, Prod.mk.injEq] at H
       obtain ⟨rfl, rfl, rfl⟩ := H
       obtain ⟨_,_,_,_⟩ := blk2 BK992
       go_wp2_with (first | ((with_reducible refine gG 178 ?_); refine goA (some 24) Tryz.func178 #[.agg #[.int .i64 a1_0, .slice A1_1 l1_1.length c1_1]] ?_; (with_reducible refine (xcR.calls a1_0 _ _ l1_1 t993 t994 _ ?side1 ?side2 A11.out).mono ?_); (case side1 => exact sC HR1_1); (case side2 => exact HC1_1.out); rintro e w16 ⟨rfl, hb⟩; refine ⟨_, rfl, ?_⟩; replace BK992 := bK BK992 hb; replace HB := bS hb; (try clear hb); (try clear hb2); (try clear hk); (try clear hi)))
       go_ret3
       exact ⟨eW, bB⟩
     ·
      rw [if_neg c10] at H
      have c10b0 : (a0 == 6) = false := beq_eq_false_iff_ne.mpr c10
      have c10b1 : (a0 != 6) = true := bne_iff_ne.mpr c10
      (first | rw [c10b0] | (simp only [i64_w, i32_w]; rw [c10b0]) | skip)
      have H' := Aside0.mk H;clear H
      go_wp2
      go_meet
      case rel => exact ⟨_, (0), (0), eS, eS, H', ⟨by have := HJ4.out; first | omega | exact Nat.le_refl _⟩, ⟨(bk BK992)⟩, ⟨bB⟩⟩
    case rest =>
     clear HC9
     obtain ⟨kq, x8_8, x10_8, rfl, rfl, HA, HJ8, BK992, HB⟩ := hcut
     cases kq with
     | zero => exact absurd HA.out (by simp [xaL.j1])
     | succ kj8 =>
      have H := HA.out;clear HA
      simp only [xaL.j1] at H
      have HC17 := Aside0.mk H;clear H
      go_upto_region 7 with (fail)
      go_cut [37] (fun v37 wc => ∃ (kq : Nat) (x37_16 : Bool), v37 = .bool x37_16 ∧ Aside0 (xaL.j2 kq a0 a2 a3 x8_8 x10_8 x37_16 a1_0 l1_1 = some (r1, r2, r3)) ∧ Aside0 (kq ≤ kj8) ∧ Aside0 (wc.heap[gb992]? = some (.cells #[.int .i64 a1_0, (.slice A1_1 l1_1.length c1_1)] 115 (0, 0))) ∧ Aside0 (Below w.heap.size w wc))
      case first =>
       have H := HC17.out;clear HC17;replace H := Option.bind_eq_some_iff.mp H
       obtain ⟨t995, A180, H⟩ := H
       replace H : (if t995 = true then ((xdT.f a3).bind fun t996 => (xaL.j2 kj8 a0 a2 a3 x8_8 x10_8 (!t996) a1_0 l1_1)) else (xaL.j2 kj8 a0 a2 a3 x8_8 x10_8 true a1_0 l1_1)) = some (r1, r2, r3) := H
       have A18 := Aside0.mk A180;clear A180
       by_cases c19 : t995 = true
       ·
        subst c19
        have H1 : ((xdT.f a3).bind fun t996 => (xaL.j2 kj8 a0 a2 a3 x8_8 x10_8 (!t996) a1_0 l1_1)) = some (r1, r2, r3) := by rw [if_pos rfl] at H; exact H
        clear H;have H := H1;clear H1;replace H := Option.bind_eq_some_iff.mp H
        obtain ⟨t996, A200, H⟩ := H
        replace H : (xaL.j2 kj8 a0 a2 a3 x8_8 x10_8 (!t996) a1_0 l1_1) = some (r1, r2, r3) := H
        have A20 := Aside0.mk A200;clear A200;have H' := Aside0.mk H;clear H
        go_wp2_with (first | ((with_reducible refine gG 179 ?_); refine goA (some 31) Tryz.func179 #[.int .i64 a2] ?_; (with_reducible refine (xdT.calls a2 true _ A18.out).mono ?_); rintro e w' ⟨rfl, ⟨nd, rfl⟩⟩; refine ⟨_, rfl, ?_⟩) | (go_at_call 179; (with_reducible refine (xdT.calls a3 t996 _ A20.out).mono ?_); rintro e w' ⟨rfl, ⟨nd, rfl⟩⟩))
        go_meet
        case rel => exact ⟨_, (!t996), eS, H', ⟨by have := HJ4.out; have := HJ8.out; first | omega | exact Nat.le_refl _⟩, ⟨(bk BK992)⟩, ⟨bB⟩⟩
       ·
        replace c19 := Bool.eq_false_iff.mpr c19;subst c19
        have H1 : (xaL.j2 kj8 a0 a2 a3 x8_8 x10_8 true a1_0 l1_1) = some (r1, r2, r3) := by rw [if_neg (show ¬ (false = true) by decide)] at H; exact H
        clear H;have H := H1;clear H1;have H' := Aside0.mk H;clear H
        go_wp2_with (first | ((with_reducible refine gG 179 ?_); refine goA (some 31) Tryz.func179 #[.int .i64 a2] ?_; (with_reducible refine (xdT.calls a2 false _ A18.out).mono ?_); rintro e w' ⟨rfl, ⟨nd, rfl⟩⟩; refine ⟨_, rfl, ?_⟩))
        go_meet
        case rel => exact ⟨_, (true), eS, H', ⟨by have := HJ4.out; have := HJ8.out; first | omega | exact Nat.le_refl _⟩, ⟨(bk BK992)⟩, ⟨bB⟩⟩
      case rest =>
       clear HC17
       obtain ⟨kq, x37_16, rfl, HA, HJ16, BK992, HB⟩ := hcut
       cases kq with
       | zero => exact absurd HA.out (by simp [xaL.j2])
       | succ kj16 =>
        have H := HA.out;clear HA
        simp only [xaL.j2] at H
        by_cases c21 : x37_16 = true
        ·
         subst c21
         have H1 : (some (0, 0, 51)) = some (r1, r2, r3) := by rw [if_pos rfl] at H; exact H
         clear H;have H := H1;clear H1
         simp only [Option.some.injEq, Prod.mk.injEq] at H
         obtain ⟨rfl, rfl, rfl⟩ := H
         go_wp2
         go_ret3
         exact ⟨eW, bB⟩
        ·
         replace c21 := Bool.eq_false_iff.mpr c21;subst c21
         have H1 : (if a3 < a2 then ((xaL.f kj16 a0 a1_0 l1_1 a3 a2).bind fun bt997 => (some (wrap64 (-bt997.1), bt997.2.1, bt997.2.2))) else (if a0 = 2 then (some (wrap64 (a3 - a2), 365, x10_8)) else (if a0 = 1 then (some (wrap64 (a3 - a2), 360, x10_8)) else (if a0 = 3 then ((xbN.f kj16 a3).bind fun t1004 => ((xbN.f kj16 a2).bind fun t1005 => (some (wrap64 ((wrap64 (366 * (wrap64 ((wrap64 (a3 - a2)) - (wrap64 (t1004 - t1005)))))) + (wrap64 (365 * (wrap64 (t1004 - t1005))))), 133590, x10_8)))) else (if a0 = 5 then ((xcQ.f kj16 a2 a3 true).bind fun t1000 => (some (t1000, 360, x10_8))) else (if a0 = 4 then ((xcQ.f kj16 a2 a3 false).bind fun t1001 => (some (t1001, 360, x10_8))) else (if a0 = 6 then ((xeT.f a1_0 l1_1 a2 a3).bind fun bt1002 => (some (bt1002.1, 252, bt1002.2))) else (some (x8_8, 360, x10_8))))))))) = some (r1, r2, r3) := by rw [if_neg (show ¬ (false = true) by decide)] at H; exact H
         clear H;have H := H1;clear H1
         by_cases c22 : a3 < a2
         ·
          rw [if_pos c22] at H
          have c22b0 : decide (a3 < a2) = true := decide_eq_true c22
          clear c22;replace H := Option.bind_eq_some_iff.mp H
          obtain ⟨⟨t997, t998, t999⟩, A230, H⟩ := H
          replace H : (some (wrap64 (-t997), t998, t999)) = some (r1, r2, r3) := H
          have A23 := Aside0.mk A230;clear A230
          simp only [Option.some.injEq, Prod.mk.injEq] at H
          obtain ⟨rfl, rfl, rfl⟩ := H
          obtain ⟨_,_,_,_⟩ := blk2 BK992
          go_wp2_with (first | ((with_reducible refine gG 165 ?_); refine goA (some 46) Tryz.func165 #[.int .i64 a0, .agg #[.int .i64 a1_0, .slice A1_1 l1_1.length c1_1], .int .i64 a3, .int .i64 a2] ?_; (with_reducible refine (ih kj16 (by have := HJ4.out; have := HJ8.out; have := HJ16.out; omega) a0 a1_0 _ _ l1_1 a3 a2 t997 t998 t999 _ ?side1 ?side2 A23.out).mono ?_); (case side1 => exact sC HR1_1); (case side2 => exact HC1_1.out); rintro e w25 ⟨rfl, hb⟩; refine ⟨_, rfl, ?_⟩; replace BK992 := bK BK992 hb; replace HB := bS hb; (try clear hb); (try clear hb2); (try clear hk); (try clear hi)))
          go_ret3
          exact ⟨eW, bB⟩
         ·
          rw [if_neg c22] at H
          have c22b0 : decide (a3 < a2) = false := decide_eq_false c22
          clear c22
          by_cases c26 : a0 = 2
          ·
           rw [if_pos c26] at H
           have c26b0 : (a0 == 2) = true := beq_iff_eq.mpr c26
           have c26b1 : (a0 != 2) = false := bne_eq_false_iff_eq.mpr c26
           clear c26
           simp only [Option.some.injEq, Prod.mk.injEq] at H
           obtain ⟨rfl, rfl, rfl⟩ := H
           go_wp2
           go_ret3
           exact ⟨eW, bB⟩
          ·
           rw [if_neg c26] at H
           have c26b0 : (a0 == 2) = false := beq_eq_false_iff_ne.mpr c26
           have c26b1 : (a0 != 2) = true := bne_iff_ne.mpr c26
           by_cases c27 : a0 = 1
           ·
            rw [if_pos c27] at H
            have c27b0 : (a0 == 1) = true := beq_iff_eq.mpr c27
            have c27b1 : (a0 != 1) = false := bne_eq_false_iff_eq.mpr c27
            clear c27
            simp only [Option.some.injEq, Prod.mk.injEq] at H
            obtain ⟨rfl, rfl, rfl⟩ := H
            go_wp2
            go_ret3
            exact ⟨eW, bB⟩
           ·
            rw [if_neg c27] at H
            have c27b0 : (a0 == 1) = false := beq_eq_false_iff_ne.mpr c27
            have c27b1 : (a0 != 1) = true := bne_iff_ne.mpr c27
            by_cases c28 : a0 = 3
            ·
             rw [if_pos c28] at H
             have c28b0 : (a0 == 3) = true := beq_iff_eq.mpr c28
             have c28b1 : (a0 != 3) = false := bne_eq_false_iff_eq.mpr c28
             clear c28;replace H := Option.bind_eq_some_iff.mp H
             obtain ⟨t1004, A290, H⟩ := H
             replace H : ((xbN.f kj16 a2).bind fun t1005 => (some (wrap64 ((wrap64 (366 * (wrap64 ((wrap64 (a3 - a2)) - (wrap64 (t1004 - t1005)))))) + (wrap64 (365 * (wrap64 (t1004 - t1005))))), 133590, x10_8))) = some (r1, r2, r3) := H
             have A29 := Aside0.mk A290;clear A290;replace H := Option.bind_eq_some_iff.mp H
             obtain ⟨t1005, A300, H⟩ := H
             replace H : (some (wrap64 ((wrap64 (366 * (wrap64 ((wrap64 (a3 - a2)) - (wrap64 (t1004 - t1005)))))) + (wrap64 (365 * (wrap64 (t1004 - t1005))))), 133590, x10_8)) = some (r1, r2, r3) := H
             have A30 := Aside0.mk A300;clear A300
             simp only [Option.some.injEq, Prod.mk.injEq] at H
             obtain ⟨rfl, rfl, rfl⟩ := H
             go_wp2_with (first | ((with_reducible refine gG 180 ?_); refine goA (some 71) Tryz.func180 #[.int .i64 a3] ?_; (with_reducible refine (xbN.calls kj16 a3 t1004 _ A29.out).mono ?_); rintro e w' ⟨rfl, ⟨nd, rfl⟩⟩; refine ⟨_, rfl, ?_⟩) | ((with_reducible refine gG 180 ?_); refine goA (some 73) Tryz.func180 #[.int .i64 a2] ?_; (with_reducible refine (xbN.calls kj16 a2 t1005 _ A30.out).mono ?_); rintro e w' ⟨rfl, ⟨nd, rfl⟩⟩; refine ⟨_, rfl, ?_⟩))
             go_ret3
             exact ⟨eW, bB⟩
            ·
             rw [if_neg c28] at H
             have c28b0 : (a0 == 3) = false := beq_eq_false_iff_ne.mpr c28
             have c28b1 : (a0 != 3) = true := bne_iff_ne.mpr c28
             by_cases c31 : a0 = 5
             ·
              rw [if_pos c31] at H
              have c31b0 : (a0 == 5) = true := beq_iff_eq.mpr c31
              have c31b1 : (a0 != 5) = false := bne_eq_false_iff_eq.mpr c31
              clear c31;replace H := Option.bind_eq_some_iff.mp H
              obtain ⟨t1000, A320, H⟩ := H
              replace H : (some (t1000, 360, x10_8)) = some (r1, r2, r3) := H
              have A32 := Aside0.mk A320;clear A320
              simp only [Option.some.injEq, Prod.mk.injEq] at H
              obtain ⟨rfl, rfl, rfl⟩ := H
              go_wp2_with (first | ((with_reducible refine gG 181 ?_); refine goA (some 86) Tryz.func181 #[.int .i64 a2, .int .i64 a3, .bool true] ?_; (with_reducible refine (xcQ.calls kj16 a2 a3 true t1000 _ A32.out).mono ?_); rintro e w33 ⟨rfl, hb⟩; refine ⟨_, rfl, ?_⟩; replace BK992 := bK BK992 hb; replace HB := bS hb; (try clear hb); (try clear hb2); (try clear hk); (try clear hi)))
              go_ret3
              exact ⟨eW, bB⟩
             ·
              rw [if_neg c31] at H
              have c31b0 : (a0 == 5) = false := beq_eq_false_iff_ne.mpr c31
              have c31b1 : (a0 != 5) = true := bne_iff_ne.mpr c31
              by_cases c34 : a0 = 4
              ·
               rw [if_pos c34] at H
               have c34b0 : (a0 == 4) = true := beq_iff_eq.mpr c34
               have c34b1 : (a0 != 4) = false := bne_eq_false_iff_eq.mpr c34
               clear c34;replace H := Option.bind_eq_some_iff.mp H
               obtain ⟨t1001, A350, H⟩ := H
               replace H : (some (t1001, 360, x10_8)) = some (r1, r2, r3) := H
               have A35 := Aside0.mk A350;clear A350
               simp only [Option.some.injEq, Prod.mk.injEq] at H
               obtain ⟨rfl, rfl, rfl⟩ := H
               go_wp2_with (first | ((with_reducible refine gG 181 ?_); refine goA (some 89) Tryz.func181 #[.int .i64 a2, .int .i64 a3, .bool false] ?_; (with_reducible refine (xcQ.calls kj16 a2 a3 false t1001 _ A35.out).mono ?_); rintro e w36 ⟨rfl, hb⟩; refine ⟨_, rfl, ?_⟩; replace BK992 := bK BK992 hb; replace HB := bS hb; (try clear hb); (try clear hb2); (try clear hk); (try clear hi)))
               go_ret3
               exact ⟨eW, bB⟩
              ·
               rw [if_neg c34] at H
               have c34b0 : (a0 == 4) = false := beq_eq_false_iff_ne.mpr c34
               have c34b1 : (a0 != 4) = true := bne_iff_ne.mpr c34
               by_cases c37 : a0 = 6
               ·
                rw [if_pos c37] at H
                have c37b0 : (a0 == 6) = true := beq_iff_eq.mpr c37
                have c37b1 : (a0 != 6) = false := bne_eq_false_iff_eq.mpr c37
                clear c37;replace H := Option.bind_eq_some_iff.mp H
                obtain ⟨⟨t1002, t1003⟩, A380, H⟩ := H
                replace H : (some (t1002, 252, t1003)) = some (r1, r2, r3) := H
                have A38 := Aside0.mk A380;clear A380
                simp only [Option.some.injEq, Prod.mk.injEq] at H
                obtain ⟨rfl, rfl, rfl⟩ := H
                obtain ⟨_,_,_,_⟩ := blk2 BK992
                go_wp2_with (first | ((with_reducible refine gG 182 ?_); refine goA (some 94) Tryz.func182 #[.agg #[.int .i64 a1_0, .slice A1_1 l1_1.length c1_1], .int .i64 a2, .int .i64 a3] ?_; (with_reducible refine (xeT.calls a1_0 _ _ l1_1 a2 a3 t1002 t1003 _ ?side1 ?side2 A38.out).mono ?_); (case side1 => exact sC HR1_1); (case side2 => exact HC1_1.out); rintro e w40 ⟨rfl, hb⟩; refine ⟨_, rfl, ?_⟩; replace BK992 := bK BK992 hb; replace HB := bS hb; (try clear hb); (try clear hb2); (try clear hk); (try clear hi)))
                go_ret3
                exact ⟨eW, bB⟩
               ·
                rw [if_neg c37] at H
                have c37b0 : (a0 == 6) = false := beq_eq_false_iff_ne.mpr c37
                have c37b1 : (a0 != 6) = true := bne_iff_ne.mpr c37
                simp only [Option.some.injEq, Prod.mk.injEq] at H
                obtain ⟨rfl, rfl, rfl⟩ := H
                go_wp2
                go_ret3
                exact ⟨eW, bB⟩
end Go.Proofs.YtkabcgmegljebaaGreatDoor.Q
namespace Go.Proofs.YtkabcgmegljebaaGreatDoor.N
open Go.RowKit Go.Proofs.YtkabcgmegljebaaGreatDoorW.PrintWords Go.Proofs.YtkabcgmegljebaaGreatDoorW.PrintLast Go.Proofs.YtkabcgmegljebaaGreatDoorW.PrintMore
open Go.Proofs.YtkabcgmegljebaaGreatDoor.Q
open Go.Proofs.YtkabcgmegljebaaGreatDoor.L (w64 td tm tm0)
open Go.Proofs.YtkabcgmegljebaaGreatDoor.S (ev_ite)
def lsum : Nat → Int
  | 0 => 0
  | f + 1 => lsum f + (if M.leap (1900 + (f : Int)) = true then 366 else 0)
theorem xhK : ∀ f, 0 ≤ lsum f ∧ lsum f ≤ 366 * f
  | 0 => by unfold lsum; omega
  | f + 1 => by have := xhK f; unfold lsum; split <;> (push_cast; omega)
def ly (y n : Int) : Int := lsum (y - 1900).toNat + (if M.leap y = true then n - M.before y else 0)
def leaps (n : Int) : Int := ly (M.civY n) n
theorem civ_day {n : Int} (h : 0 ≤ n ∧ n ≤ 109572) : 1900 ≤ M.civY n ∧ M.civY n ≤ 2199 ∧ M.before (M.civY n) ≤ n ∧ n < M.before (M.civY n + 1) := M.xeV n h.1 h.2
theorem ly_rng {y n : Int} (hy : 1900 ≤ y ∧ y ≤ 2200) (h1 : M.before y ≤ n) (h2 : n ≤ M.before (y + 1)) : 0 ≤ ly y n ∧ ly y n ≤ 200000 := by
 have := xhK (y - 1900).toNat
 have hb := M.xfJ y
 have := M.lp_01 y
 unfold ly; split <;> omega
def act (n : Int) : Int := 366 * n - leaps n
def thirty (e : Bool) (a b : Int) : Int :=
 if e = true then wrap64 (wrap64 (wrap64 (wrap64 (360 * wrap64 (M.civY b - M.civY a)) + wrap64 (30 * wrap64 (M.civM b - M.civM a))) + mn (M.civD b) 30) - mn (M.civD a) 30)
 else if mn (M.civD a) 30 = 30 then wrap64 (wrap64 (wrap64 (wrap64 (360 * wrap64 (M.civY b - M.civY a)) + wrap64 (30 * wrap64 (M.civM b - M.civM a))) + mn (M.civD b) 30) - mn (M.civD a) 30)
 else wrap64 (wrap64 (wrap64 (wrap64 (360 * wrap64 (M.civY b - M.civY a)) + wrap64 (30 * wrap64 (M.civM b - M.civM a))) + M.civD b) - mn (M.civD a) 30)
def up (kind a b : Int) : Int × Int × Int :=
  if kind = 1 then (b - a, 360, 0) else if kind = 2 then (b - a, 365, 0) else if kind = 3 then (act b - act a, 133590, 0)
  else if kind = 4 then (thirty false a b, 360, 0) else (thirty true a b, 360, 0)
def frac (kind a b : Int) : Int × Int × Int :=
  if ¬ ((0 ≤ a ∧ a ≤ 109572) ∧ (0 ≤ b ∧ b ≤ 109572)) then (0, 0, 51)
  else if b < a then (wrap64 (-(up kind b a).1), (up kind b a).2.1, (up kind b a).2.2) else up kind a b
theorem cis (n : Int) : xdT.f n = some (decide (0 ≤ n ∧ n ≤ 109572)) := by
 unfold xdT.f
 by_cases h : n ≥ 0
 ·
  rw [if_pos h]; simp [h]
 ·
  rw [if_neg h]; simp; omega
theorem leaps_l0 (n : Int) (hn : 0 ≤ n ∧ n ≤ 109572) : ∀ (f : Nat) (i : Nat), 1900 + (i : Int) + f = M.civY n → Ev (fun k => xbN.l0 k n (M.civY n) (lsum i) (1900 + (i : Int))) (leaps n)
 | 0, i, hf => by
  obtain ⟨c1, c2, c3, c4⟩ := civ_day hn
  refine Ev.step (fun k => by rw [xbN.l0, if_neg (by omega), L.leap, Option.bind_some]) ?_
  have hi : i = (M.civY n - 1900).toNat := by omega
  unfold leaps ly
  refine ev_ite (fun hl => ?_) (fun hl => ?_)
  ·
   rw [if_pos hl]
   have hd : M.isDate (M.civY n) 1 1 := by have := M.xeL (M.civY n) 1; unfold M.isDate; omega
   have ho := L.Of (M.civY n) 1 1
   rw [if_pos hd] at ho
   refine Ev.bind ho (Ev.congr (f := fun _ => some (lsum (M.civY n - 1900).toNat + (n - M.before (M.civY n)))) (fun k => ?_) (Ev.now _))
   have hdo : M.dayOf (M.civY n) 1 1 = M.before (M.civY n) := by unfold M.dayOf; rw [M.cum_1]; omega
   have hr := xhK i;have hb := M.xiG hd
   rw [hdo] at hb
   simp only [hdo]
   rw [w64 (x := n - M.before (M.civY n)) (by omega) (by omega), w64 (by omega) (by omega), hi]
  ·
   rw [if_neg hl, hi, Int.add_zero]
   exact Ev.now _
 | f + 1, i, hf => by
  obtain ⟨c1, c2, c3, c4⟩ := civ_day hn
  have hr := xhK i
  have hw1 : wrap64 (lsum i + 366) = lsum i + 366 := w64 (by omega) (by omega)
  have hw2 : wrap64 (1900 + (i : Int) + 1) = 1900 + ((i + 1 : Nat) : Int) := by rw [w64 (by omega) (by omega)]; push_cast; omega
  have hrec := leaps_l0 n hn f (i + 1) (by push_cast; omega)
  refine Ev.step (fun k => by rw [xbN.l0, if_pos (by omega), L.leap, Option.bind_some, hw1, hw2]) ?_
  rw [lsum] at hrec
  refine ev_ite (fun hl => ?_) (fun hl => ?_)
  ·
   rw [if_pos hl] at hrec; exact hrec
  ·
   rw [if_neg hl, Int.add_zero] at hrec; exact hrec
theorem cleaps (n : Int) (hn : 0 ≤ n ∧ n ≤ 109572) : Ev (fun k => xbN.f k n) (leaps n) := by
 obtain ⟨c1, c2, c3, c4⟩ := civ_day hn
 have hc := L.Civil n
 rw [if_pos hn] at hc
 refine Ev.congr (fun k => by unfold xbN.f; rfl) (Ev.bind hc ?_)
 have := leaps_l0 n hn (M.civY n - 1900).toNat 0 (by push_cast; omega)
 exact this
theorem cthirty (e : Bool) (a b : Int) (ha : 0 ≤ a ∧ a ≤ 109572) (hb : 0 ≤ b ∧ b ≤ 109572) : Ev (fun k => xcQ.f k a b e) (thirty e a b) := by
 have hc := L.Civil a
 rw [if_pos ha] at hc
 have hd := L.Civil b
 rw [if_pos hb] at hd
 refine Ev.congr (fun k => by unfold xcQ.f; rfl) (Ev.bind hc (Ev.bind hd ?_))
 unfold thirty
 refine ev_ite (fun h => ?_) (fun h => ev_ite (fun h2 => ?_) (fun h2 => ?_))
 ·
  rw [if_pos h]; exact Ev.now _
 ·
  rw [if_neg h, if_pos h2]; exact Ev.now _
 ·
  rw [if_neg h, if_neg h2]; exact Ev.now _
theorem leaps_rng {n : Int} (hn : 0 ≤ n ∧ n ≤ 109572) : 0 ≤ leaps n ∧ leaps n ≤ 200000 := by
  obtain ⟨c1, c2, c3, c4⟩ := civ_day hn
  exact ly_rng ⟨c1, by omega⟩ c3 (by omega)
theorem cj2 (kind we : Int) (l : List S214) (a b : Int) (hk : 1 ≤ kind ∧ kind ≤ 5) (ha : 0 ≤ a ∧ a ≤ 109572) (hb : 0 ≤ b ∧ b ≤ 109572) (h : ¬ b < a) : Ev (fun k => xaL.j2 k kind a b 0 0 false we l) (up kind a b) := by
 refine Ev.step (fun k => by rw [xaL.j2, if_neg (by decide), if_neg h]) ?_
 have hw1 : wrap64 (b - a) = b - a := w64 (by omega) (by omega)
 unfold up
 refine ev_ite (fun k2 => ?_) (fun k2 => ev_ite (fun k1 => ?_) (fun k1 => ev_ite (fun k3 => ?_) (fun k3 => ev_ite (fun k5 => ?_) (fun k5 => ev_ite (fun k4 => ?_) (fun k4 => absurd hk (by omega))))))
 ·
  rw [if_neg (show ¬ kind = 1 by omega), if_pos k2, hw1]; exact Ev.now _
 ·
  rw [if_pos k1, hw1]; exact Ev.now _
 ·
  rw [if_neg k1, if_neg k2, if_pos k3]
  refine Ev.bind (cleaps b hb) (Ev.bind (cleaps a ha) (Ev.congr (f := fun _ => some (act b - act a, 133590, 0)) (fun k => ?_) (Ev.now _)))
  have r1 := leaps_rng ha;have r2 := leaps_rng hb
  rw [hw1, w64 (x := leaps b - leaps a) (by omega) (by omega), w64 (x := b - a - (leaps b - leaps a)) (by omega) (by omega), w64 (x := 366 * (b - a - (leaps b - leaps a))) (by omega) (by omega), w64 (x := 365 * (leaps b - leaps a)) (by omega) (by omega), w64 (by omega) (by omega)]
  unfold act
  congr 2
  omega
 ·
  rw [if_neg k1, if_neg k2, if_neg k3, if_neg (show ¬ kind = 4 by omega)]
  exact Ev.bind (cthirty true a b ha hb) (Ev.now _)
 ·
  rw [if_neg k1, if_neg k2, if_neg k3, if_pos k4]
  exact Ev.bind (cthirty false a b ha hb) (Ev.now _)
theorem cUp (kind we : Int) (l : List S214) (a b : Int) (hk : 1 ≤ kind ∧ kind ≤ 5) (ha : 0 ≤ a ∧ a ≤ 109572) (hb : 0 ≤ b ∧ b ≤ 109572) (R : Int × Int × Int) (h : Ev (fun k => xaL.j2 k kind a b 0 0 false we l) R) : Ev (fun k => xaL.f k kind we l a b) R := by
 have hj1 : Ev (fun k => xaL.j1 k kind a b 0 0 we l) R :=
  Ev.step (fun k => by rw [xaL.j1, cis, Option.bind_some, decide_eq_true ha, if_pos rfl, cis, Option.bind_some, decide_eq_true hb]; rfl) h
 refine Ev.step (fun k => by rw [xaL.f, if_neg (by omega), decide_eq_false (by omega)]) ?_
 refine Ev.step (fun k => by rw [xaL.j0, if_neg (by decide)]) ?_
 exact ev_ite (fun k6 => absurd k6 (by omega)) (fun _ => hj1)
theorem cFrac (kind we : Int) (l : List S214) (a b : Int) (hk : 1 ≤ kind ∧ kind ≤ 5) : Ev (fun k => xaL.f k kind we l a b) (frac kind a b) := by
 unfold frac
 by_cases hd : (0 ≤ a ∧ a ≤ 109572) ∧ (0 ≤ b ∧ b ≤ 109572)
 ·
  rw [if_neg (fun h => h hd)]
  by_cases hlt : b < a
  ·
   rw [if_pos hlt]
   refine cUp kind we l a b hk hd.1 hd.2 _ (Ev.step (fun k => by rw [xaL.j2, if_neg (by decide), if_pos hlt]) ?_)
   exact Ev.bind (cUp kind we l b a hk hd.2 hd.1 _ (cj2 kind we l b a hk hd.2 hd.1 (by omega))) (Ev.now _)
  ·
   rw [if_neg hlt]
   exact cUp kind we l a b hk hd.1 hd.2 _ (cj2 kind we l a b hk hd.1 hd.2 hlt)
 ·
  rw [if_pos hd]
  have hj2 : Ev (fun k => xaL.j2 k kind a b 0 0 true we l) ((0, 0, 51) : Int × Int × Int) := Ev.step (fun k => by rw [xaL.j2, if_pos rfl]) (Ev.now _)
  have hj1 : Ev (fun k => xaL.j1 k kind a b 0 0 we l) ((0, 0, 51) : Int × Int × Int) := by
   by_cases ha : 0 ≤ a ∧ a ≤ 109572
   ·
    have hb : ¬ (0 ≤ b ∧ b ≤ 109572) := fun h => hd ⟨ha, h⟩
    exact Ev.step (fun k => by rw [xaL.j1, cis, Option.bind_some, decide_eq_true ha, if_pos rfl, cis, Option.bind_some, decide_eq_false hb]; rfl) hj2
   ·
    exact Ev.step (fun k => by rw [xaL.j1, cis, Option.bind_some, decide_eq_false ha, if_neg (by decide)]) hj2
  refine Ev.step (fun k => by rw [xaL.f, if_neg (by omega), decide_eq_false (by omega)]) ?_
  refine Ev.step (fun k => by rw [xaL.j0, if_neg (by decide)]) ?_
  exact ev_ite (fun k6 => absurd k6 (by omega)) (fun _ => hj1)
end Go.Proofs.YtkabcgmegljebaaGreatDoor.N
namespace Go.Proofs.YtkabcgmegljebaaGreatDoor.H
open Go.RowKit Go.Proofs.YtkabcgmegljebaaGreatDoorW.PrintWords Go.Proofs.YtkabcgmegljebaaGreatDoorW.PrintLast Go.Proofs.YtkabcgmegljebaaGreatDoorW.PrintMore
open Go.Proofs.YtkabcgmegljebaaGreatDoor.Q
open Ieee
theorem c_bin : double.binade = 4503599627370496 := by decide
theorem c_inf : double.infRung = 9218868437227405312 := by decide
theorem c_sw : double.signWeight = 9223372036854775808 := by decide
def Sound (x : Nat) : Prop := (∃ s m i, double.read x = .number s m i) ∨ ∃ s, double.read x = .infinity s
theorem word_sound (s : Bool) {r : Nat} (h : r ≤ 9218868437227405312) : Sound (double.word s r) := by
 have hm : double.word s r % 9223372036854775808 = r := by
  unfold Format.word; rw [c_sw]; split <;> omega
 unfold Sound Format.read
 rw [c_sw, c_bin, c_inf]
 simp only [hm]
 by_cases h1 : r < 4503599627370496
 ·
  rw [if_pos h1]; exact Or.inl ⟨_, _, _, rfl⟩
 ·
  rw [if_neg h1]
  by_cases h2 : r < 9218868437227405312
  ·
   rw [if_pos h2]; exact Or.inl ⟨_, _, _, rfl⟩
  ·
   rw [if_neg h2, if_pos (by omega)]; exact Or.inr ⟨_, rfl⟩
theorem near_sound (s : Bool) (m : Nat) (i : Int) : Sound (double.nearest s m i) := by
 unfold Format.nearest
 dsimp only
 split
 ·
  exact word_sound _ (by omega)
 ·
  exact word_sound _ (by rw [c_inf]; exact Nat.min_le_right _ _)
theorem int_sound (n : Int) : Sound (floatOfInt .f64 n) := near_sound _ _ _
def quoN (p q : Int) : Nat := (floatBits .quo .f64 (floatOfInt .f64 p) (floatOfInt .f64 q)).getD 0
theorem quo_some (p : Int) {q : Int} (hq : ∃ s m i, double.read (floatOfInt .f64 q) = .number s m i ∧ m ≠ 0) : floatBits .quo .f64 (floatOfInt .f64 p) (floatOfInt .f64 q) = some (quoN p q) := by
 obtain ⟨t, n, j, e2, hn⟩ := hq
 have h : ∃ r, floatBits .quo .f64 (floatOfInt .f64 p) (floatOfInt .f64 q) = some r := by
  show ∃ r, ((double.read (floatOfInt .f64 p)).quotient (double.fractionBits + 2) (double.read (floatOfInt .f64 q))).map double.write = some r
  rw [e2]
  rcases int_sound p with ⟨s, m, i, e1⟩ | ⟨s, e1⟩
  ·
   rw [e1]; unfold Datum.quotient; simp only; rw [if_neg hn]; exact ⟨_, rfl⟩
  ·
   rw [e1]; exact ⟨_, rfl⟩
 obtain ⟨r, hr⟩ := h
 unfold quoN
 rw [hr]; rfl
theorem q360 : ∃ s m i, double.read (floatOfInt .f64 360) = .number s m i ∧ m ≠ 0 := ⟨_, _, _, rfl, by decide +kernel⟩
theorem q365 : ∃ s m i, double.read (floatOfInt .f64 365) = .number s m i ∧ m ≠ 0 := ⟨_, _, _, rfl, by decide +kernel⟩
theorem qact : ∃ s m i, double.read (floatOfInt .f64 133590) = .number s m i ∧ m ≠ 0 := ⟨_, _, _, rfl, by decide +kernel⟩
theorem up_den (kind a b : Int) : ((N.up kind a b).2.1 = 360 ∨ (N.up kind a b).2.1 = 365 ∨ (N.up kind a b).2.1 = 133590) ∧ (N.up kind a b).2.2 = 0 := by
 unfold N.up
 repeat' split
 all_goals simp
theorem frac_den {kind a b : Int} (h : (N.frac kind a b).2.2 = 0) : ∃ s m i, double.read (floatOfInt .f64 (N.frac kind a b).2.1) = .number s m i ∧ m ≠ 0 := by
 have hu : ∀ x y, ∃ s m i, double.read (floatOfInt .f64 (N.up kind x y).2.1) = .number s m i ∧ m ≠ 0 := fun x y => by
  rcases (up_den kind x y).1 with e | e | e <;> rw [e]
  ·
   exact q360
  ·
   exact q365
  ·
   exact qact
 unfold N.frac at h ⊢
 by_cases h1 : ¬ ((0 ≤ a ∧ a ≤ 109572) ∧ (0 ≤ b ∧ b ≤ 109572))
 ·
  rw [if_pos h1] at h; cases h
 ·
  rw [if_neg h1] at h ⊢
  by_cases h2 : b < a
  ·
   rw [if_pos h2]; exact hu b a
  ·
   rw [if_neg h2]; exact hu a b
def yearF (kind a b : Int) : Nat := quoN (N.frac kind a b).1 (N.frac kind a b).2.1
def nanV (x y : Nat) (w : World) : Nat := (Question.nanBits .f64 x y).cut (w.tape w.drawn (.nanBits .f64 x y))
theorem nan_run {x y : Nat} (h : floatBits .mul .f64 x y = none) (t : TypeId) (w : World) : (binOp .mul t (.float .f64 x) (.float .f64 y)).run Tryz.prog w = .ok (.float .f64 (nanV x y w)) w.drew := by
  unfold floatBits at h
  simp [binOp, Op.floatArith, h, Question.forced, nanV]
theorem nan_num (x y : Nat) (w : World) : numB (nanV x y w) = false := by
 have h : ∀ t : Nat, ¬ (t % 2 * 2 ^ 63 + 0x7ff0000000000000 + 1 + t / 2 % (2 ^ 52 - 1)) % 9223372036854775808 < 9218868437227405312 := fun t => by
  have h1 : t / 2 % (2 ^ 52 - 1) < 4503599627370495 := Nat.mod_lt _ (by decide)
  generalize t / 2 % (2 ^ 52 - 1) = r at h1 ⊢
  generalize t % 2 = s
  omega
 exact decide_eq_false (h (w.tape w.drawn (.nanBits .f64 x y)))
theorem year_ok (kind a b : Int) (hk : 1 ≤ kind ∧ kind ≤ 5) (he : (N.frac kind a b).2.2 = 0) (w : World) :
  Calls Tryz.prog 143 #[.int .i64 kind, .agg #[.int .i64 0, .slice none 0 0], .int .i64 a, .int .i64 b] w fun e w' => e = .returned (.tuple #[.float .f64 (yearF kind a b), .int .i64 0]) ∧ Below w.heap.size w w' := by
 obtain ⟨k, hf⟩ := N.cFrac kind 0 [] a b hk
 have hq := quo_some (N.frac kind a b).1 (frac_den he)
 have hf' := hf k (Nat.le_refl _)
 obtain ⟨r, hr⟩ : ∃ r, r = yearF kind a b := ⟨_, rfl⟩
 rw [← hr]
 have hq' : floatBits .quo .f64 (floatOfInt .f64 (N.frac kind a b).1) (floatOfInt .f64 (N.frac kind a b).2.1) = some r := by rw [hr]; exact hq
 obtain ⟨⟨p, q, e⟩, hx⟩ : ∃ x, x = N.frac kind a b := ⟨_, rfl⟩
 rw [← hx] at hf' hq' he
 obtain rfl : e = 0 := he
 have hop : ∀ t w, (binOp .quo t (.float .f64 (floatOfInt .f64 p)) (.float .f64 (floatOfInt .f64 q))).run Tryz.prog w = .ok (.float .f64 r) w := fun t w => run_float_arith w .quo t .f64 _ _ _ hq'
 have hF : ∀ w, Calls Tryz.prog 165 #[.int .i64 kind, .agg #[.int .i64 0, .slice none 0 0], .int .i64 a, .int .i64 b] w fun e w' => e = .returned (.tuple #[.int .i64 p, .int .i64 q, .int .i64 0]) ∧ Below w.heap.size w w' := fun w => xaL.calls k kind 0 none 0 [] a b p q 0 w (Kd.C_nil _ _) (Nat.le_refl _) hf'
 have HF := Aside0.mk hF;clear hx hr hq hq' hf hf' hF hk
 have B1 := Aside0.mk (xbB w (.cells #[.int .i64 0, .slice none 0 0] 115))
 have HB1 := Aside0.mk (xaC (Below.refl w.heap.size w) (.cells #[.int .i64 0, .slice none 0 0] 115))
 obtain ⟨c0, c1, z0, z1⟩ := blk2 B1
 go_enter Tryz.func143, Tryz.ntmps143
 go_wp2_with (go_at_call 165; (with_reducible refine (HF.out _).mono ?_); rintro e w2 ⟨rfl, hb⟩; have HB2 := Aside0.mk (HB1.out.trans (hb.mono HB1.out.size)); clear hb)
 go_ret2
 exact ⟨rfl, HB2.out⟩
end Go.Proofs.YtkabcgmegljebaaGreatDoor.H
namespace Go.Proofs.YtkabcgmegljebaaGreatDoor.H
open Go.RowKit Go.Proofs.YtkabcgmegljebaaGreatDoorW.PrintWords Go.Proofs.YtkabcgmegljebaaGreatDoorW.PrintLast Go.Proofs.YtkabcgmegljebaaGreatDoorW.PrintMore
open Go.Proofs.YtkabcgmegljebaaGreatDoor.Q
theorem frac_in {kind a b : Int} (h : (0 ≤ a ∧ a ≤ 109572) ∧ (0 ≤ b ∧ b ≤ 109572)) : (N.frac kind a b).2.2 = 0 := by
 unfold N.frac
 rw [if_neg (fun g => g h)]
 split
 ·
  exact (up_den _ _ _).2
 ·
  exact (up_den _ _ _).2
theorem size48 : (Tryz.prog.info? 48).map (·.size) = some 3 := by kernel_rfl
def paidF (kind cur : Int) (x y : Nat) (p : S145) : S48 × Int :=
 match floatBits .mul .f64 (mulN x y) (yearF kind p.f2 p.f3) with
 | some r => if numB r = true then (⟨p.f4, r, cur⟩, 0) else (⟨0, 0, 0⟩, 91)
 | none => (⟨0, 0, 0⟩, 91)
theorem paid_num (kind cur : Int) (x y : Nat) (a b n : Int) (p : S145) (hk : 1 ≤ kind ∧ kind ≤ 5) (hx : numB x = true) (hy : numB y = true) (hp : (0 ≤ p.f2 ∧ p.f2 ≤ 109572) ∧ (0 ≤ p.f3 ∧ p.f3 ≤ 109572)) (w : World) (r : Nat) (hr : floatBits .mul .f64 (mulN x y) (yearF kind p.f2 p.f3) = some r) (hn : numB r = true) :
  Calls Tryz.prog 119 #[.agg #[.int .i64 1, .int .i64 kind, .int .i64 cur, .float .f64 x, .float .f64 y, .int .i64 a, .int .i64 b, .int .i64 n, .int .i64 3, .int .i64 1, .int .i64 0, .int .i64 0, .int .i64 0, .int .i64 0, .slice none 0 0], .agg #[.int .i64 p.f0, .int .i64 p.f1, .int .i64 p.f2, .int .i64 p.f3, .int .i64 p.f4], .float .f64 y] w fun e w' => e = .returned (.tuple #[.agg #[.int .i64 p.f4, .float .f64 r, .int .i64 cur], .int .i64 0]) ∧ Below w.heap.size w w' := by
 have HB := Aside0.mk (Below.refl w.heap.size w)
 have hY := fun w => year_ok kind p.f2 p.f3 hk (frac_in hp) w
 have hm := xfQ hx hy
 obtain ⟨u, hu⟩ : ∃ u, u = mulN x y := ⟨_, rfl⟩
 obtain ⟨v, hv⟩ : ∃ v, v = yearF kind p.f2 p.f3 := ⟨_, rfl⟩
 rw [← hu, ← hv] at hr
 have hop2 : ∀ t w, (binOp .mul t (.float .f64 u) (.float .f64 v)).run Tryz.prog w = .ok (.float .f64 r) w := fun t w => run_float_arith w .mul t .f64 u v r hr
 have HN := Aside0.mk hn;clear hr hn
 rw [← hu] at hm
 rw [← hv] at hY
 have hop : ∀ t w, (binOp .mul t (.float .f64 x) (.float .f64 y)).run Tryz.prog w = .ok (.float .f64 u) w := fun t w => run_float_arith w .mul t .f64 x y u hm
 have HY := Aside0.mk hY;clear hY hm hu hv hk hx hy hp
 go_enter Tryz.func119, Tryz.ntmps119
 go_wp2_with (first | ((with_reducible refine xaU (N := 3) rfl ?_); refine xaT ?hg (N := 3) ?hd (cs := #[.int .i64 1, .int .i64 kind, .int .i64 cur, .float .f64 x, .float .f64 y, .int .i64 a, .int .i64 b, .int .i64 n, .int .i64 3, .int .i64 1, .int .i64 0, .int .i64 0, .int .i64 0, .int .i64 0, .slice none 0 0]) (t := 158) ?hr ?_; (case hd => rfl); (case hg => rfl); (case hr => first | (go_simp; done) | (go_simp; rfl)); intro gl hg w1 hbox hb; have BL := Aside0.mk hbox; replace HB := Aside0.mk (xaV HB.out hb); clear hb hbox hg; have cgl_1 : w1.cell? ⟨gl, 1, none⟩ = some (.int .i64 kind) := (xaA BL.out 1).trans rfl; have zgl_1 := xaB BL.out 1; have cgl_2 : w1.cell? ⟨gl, 2, none⟩ = some (.int .i64 cur) := (xaA BL.out 2).trans rfl; have zgl_2 := xaB BL.out 2; have cgl_3 : w1.cell? ⟨gl, 3, none⟩ = some (.float .f64 x) := (xaA BL.out 3).trans rfl; have zgl_3 := xaB BL.out 3; have cgl_13 : w1.cell? ⟨gl, 13, none⟩ = some (.int .i64 0) := (xaA BL.out 13).trans rfl; have zgl_13 := xaB BL.out 13; have cgl_14 : w1.cell? ⟨gl, 14, none⟩ = some (.slice none 0 0) := (xaA BL.out 14).trans rfl; have zgl_14 := xaB BL.out 14) | ((with_reducible refine xaU (N := 4) rfl ?_); refine xaT ?hg (N := 4) ?hd (cs := #[.int .i64 p.f0, .int .i64 p.f1, .int .i64 p.f2, .int .i64 p.f3, .int .i64 p.f4]) (t := 145) ?hr ?_; (case hd => rfl); (case hg => rfl); (case hr => first | (go_simp; done) | (go_simp; rfl)); intro gp hg w2 hbox hb; have BP := Aside0.mk hbox; replace HB := Aside0.mk (xaV HB.out hb); replace BL := Aside0.mk (xaK BL.out hb); clear hb hbox hg; clear cgl_1 zgl_1 cgl_2 zgl_2 cgl_3 zgl_3 cgl_13 zgl_13 cgl_14 zgl_14; have cgl_1 : w2.cell? ⟨gl, 1, none⟩ = some (.int .i64 kind) := (xaA BL.out 1).trans rfl; have zgl_1 := xaB BL.out 1; have cgl_2 : w2.cell? ⟨gl, 2, none⟩ = some (.int .i64 cur) := (xaA BL.out 2).trans rfl; have zgl_2 := xaB BL.out 2; have cgl_3 : w2.cell? ⟨gl, 3, none⟩ = some (.float .f64 x) := (xaA BL.out 3).trans rfl; have zgl_3 := xaB BL.out 3; have cgl_13 : w2.cell? ⟨gl, 13, none⟩ = some (.int .i64 0) := (xaA BL.out 13).trans rfl; have zgl_13 := xaB BL.out 13; have cgl_14 : w2.cell? ⟨gl, 14, none⟩ = some (.slice none 0 0) := (xaA BL.out 14).trans rfl; have zgl_14 := xaB BL.out 14; have cgp_2 : w2.cell? ⟨gp, 2, none⟩ = some (.int .i64 p.f2) := (xaA BP.out 2).trans rfl; have zgp_2 := xaB BP.out 2; have cgp_3 : w2.cell? ⟨gp, 3, none⟩ = some (.int .i64 p.f3) := (xaA BP.out 3).trans rfl; have zgp_3 := xaB BP.out 3; have cgp_4 : w2.cell? ⟨gp, 4, none⟩ = some (.int .i64 p.f4) := (xaA BP.out 4).trans rfl; have zgp_4 := xaB BP.out 4) | ((with_reducible refine xaU (N := 6) rfl ?_); refine xaT ?hg (N := 6) ?hd (cs := #[.int .i64 0, .float .f64 0, .int .i64 0]) (t := 48) ?hr ?_; (case hd => rfl); (case hg => rfl); (case hr => first | (go_simp; done) | (go_simp; rfl)); intro gr hg w5 hbox hb; have GR := bG hg; have BR := Aside0.mk hbox; replace HB := Aside0.mk (xaV HB.out hb); replace BL := Aside0.mk (xaK BL.out hb); replace BP := Aside0.mk (xaK BP.out hb); clear hb hbox hg; clear cgl_1 zgl_1 cgl_2 zgl_2 cgl_3 zgl_3 cgl_13 zgl_13 cgl_14 zgl_14 cgp_2 zgp_2 cgp_3 zgp_3 cgp_4 zgp_4; have cgl_1 : w5.cell? ⟨gl, 1, none⟩ = some (.int .i64 kind) := (xaA BL.out 1).trans rfl; have zgl_1 := xaB BL.out 1; have cgl_2 : w5.cell? ⟨gl, 2, none⟩ = some (.int .i64 cur) := (xaA BL.out 2).trans rfl; have zgl_2 := xaB BL.out 2; have cgl_3 : w5.cell? ⟨gl, 3, none⟩ = some (.float .f64 x) := (xaA BL.out 3).trans rfl; have zgl_3 := xaB BL.out 3; have cgl_13 : w5.cell? ⟨gl, 13, none⟩ = some (.int .i64 0) := (xaA BL.out 13).trans rfl; have zgl_13 := xaB BL.out 13; have cgl_14 : w5.cell? ⟨gl, 14, none⟩ = some (.slice none 0 0) := (xaA BL.out 14).trans rfl; have zgl_14 := xaB BL.out 14; have cgp_2 : w5.cell? ⟨gp, 2, none⟩ = some (.int .i64 p.f2) := (xaA BP.out 2).trans rfl; have zgp_2 := xaB BP.out 2; have cgp_3 : w5.cell? ⟨gp, 3, none⟩ = some (.int .i64 p.f3) := (xaA BP.out 3).trans rfl; have zgp_3 := xaB BP.out 3; have cgp_4 : w5.cell? ⟨gp, 4, none⟩ = some (.int .i64 p.f4) := (xaA BP.out 4).trans rfl; have zgp_4 := xaB BP.out 4; obtain ⟨cr0, cr1, cr2, zr0, zr1, zr2⟩ := blk3 BR) | (go_at_call 143; (with_reducible refine (HY.out _).mono ?_); rintro e w3 ⟨rfl, hb⟩; replace HB := Aside0.mk (xaV (by repeat (first | exact HB.out | apply xaC | apply xaJ | apply xaM)) hb); replace BL := Aside0.mk (xaK (by repeat (first | exact BL.out | apply xaE | apply xaH | apply xaF)) hb); replace BP := Aside0.mk (xaK (by repeat (first | exact BP.out | apply xaE | apply xaH | apply xaF)) hb); replace BR := Aside0.mk (xaK (by repeat (first | exact BR.out | apply xaE | apply xaH | apply xaF)) hb); clear hb; clear cr0 cr1 cr2 zr0 zr1 zr2; clear cgl_1 zgl_1 cgl_2 zgl_2 cgl_3 zgl_3 cgl_13 zgl_13 cgl_14 zgl_14 cgp_2 zgp_2 cgp_3 zgp_3 cgp_4 zgp_4; have cgl_1 : w3.cell? ⟨gl, 1, none⟩ = some (.int .i64 kind) := (xaA BL.out 1).trans rfl; have zgl_1 := xaB BL.out 1; have cgl_2 : w3.cell? ⟨gl, 2, none⟩ = some (.int .i64 cur) := (xaA BL.out 2).trans rfl; have zgl_2 := xaB BL.out 2; have cgl_3 : w3.cell? ⟨gl, 3, none⟩ = some (.float .f64 x) := (xaA BL.out 3).trans rfl; have zgl_3 := xaB BL.out 3; have cgl_13 : w3.cell? ⟨gl, 13, none⟩ = some (.int .i64 0) := (xaA BL.out 13).trans rfl; have zgl_13 := xaB BL.out 13; have cgl_14 : w3.cell? ⟨gl, 14, none⟩ = some (.slice none 0 0) := (xaA BL.out 14).trans rfl; have zgl_14 := xaB BL.out 14; have cgp_2 : w3.cell? ⟨gp, 2, none⟩ = some (.int .i64 p.f2) := (xaA BP.out 2).trans rfl; have zgp_2 := xaB BP.out 2; have cgp_3 : w3.cell? ⟨gp, 3, none⟩ = some (.int .i64 p.f3) := (xaA BP.out 3).trans rfl; have zgp_3 := xaB BP.out 3; have cgp_4 : w3.cell? ⟨gp, 4, none⟩ = some (.int .i64 p.f4) := (xaA BP.out 4).trans rfl; have zgp_4 := xaB BP.out 4; obtain ⟨cr0, cr1, cr2, zr0, zr1, zr2⟩ := blk3 BR) | (go_at_call 97; (with_reducible refine (xfL r true HN.out _).mono ?_); rintro e w4 ⟨rfl, hw_⟩; obtain rfl := hw_.symm))
 (try simp only [Exit.inBlock, Exit.then])
 refine bodyPost_ret (xgP rfl _ _ gr 48 _ (0, 0) _ rfl (xeN (xeN (xeN BR.out 0 _) 1 _) 2 _) Tryz.underlying48 rfl (size48.trans rfl)) rfl ?_
 exact ⟨by simp, bB⟩
theorem paid_inf (kind cur : Int) (x y : Nat) (a b n : Int) (p : S145) (hk : 1 ≤ kind ∧ kind ≤ 5) (hx : numB x = true) (hy : numB y = true) (hp : (0 ≤ p.f2 ∧ p.f2 ≤ 109572) ∧ (0 ≤ p.f3 ∧ p.f3 ≤ 109572)) (w : World) (r : Nat) (hr : floatBits .mul .f64 (mulN x y) (yearF kind p.f2 p.f3) = some r) (hn : numB r = false) :
  Calls Tryz.prog 119 #[.agg #[.int .i64 1, .int .i64 kind, .int .i64 cur, .float .f64 x, .float .f64 y, .int .i64 a, .int .i64 b, .int .i64 n, .int .i64 3, .int .i64 1, .int .i64 0, .int .i64 0, .int .i64 0, .int .i64 0, .slice none 0 0], .agg #[.int .i64 p.f0, .int .i64 p.f1, .int .i64 p.f2, .int .i64 p.f3, .int .i64 p.f4], .float .f64 y] w fun e w' => e = .returned (.tuple #[.agg #[.int .i64 0, .float .f64 0, .int .i64 0], .int .i64 91]) ∧ Below w.heap.size w w' := by
 have HB := Aside0.mk (Below.refl w.heap.size w)
 have hY := fun w => year_ok kind p.f2 p.f3 hk (frac_in hp) w
 have hm := xfQ hx hy
 obtain ⟨u, hu⟩ : ∃ u, u = mulN x y := ⟨_, rfl⟩
 obtain ⟨v, hv⟩ : ∃ v, v = yearF kind p.f2 p.f3 := ⟨_, rfl⟩
 rw [← hu, ← hv] at hr
 have hop2 : ∀ t w, (binOp .mul t (.float .f64 u) (.float .f64 v)).run Tryz.prog w = .ok (.float .f64 r) w := fun t w => run_float_arith w .mul t .f64 u v r hr
 have HN := Aside0.mk hn;clear hr hn
 rw [← hu] at hm
 rw [← hv] at hY
 have hop : ∀ t w, (binOp .mul t (.float .f64 x) (.float .f64 y)).run Tryz.prog w = .ok (.float .f64 u) w := fun t w => run_float_arith w .mul t .f64 x y u hm
 have HY := Aside0.mk hY;clear hY hm hu hv hk hx hy hp
 go_enter Tryz.func119, Tryz.ntmps119
 go_wp2_with (first | ((with_reducible refine xaU (N := 3) rfl ?_); refine xaT ?hg (N := 3) ?hd (cs := #[.int .i64 1, .int .i64 kind, .int .i64 cur, .float .f64 x, .float .f64 y, .int .i64 a, .int .i64 b, .int .i64 n, .int .i64 3, .int .i64 1, .int .i64 0, .int .i64 0, .int .i64 0, .int .i64 0, .slice none 0 0]) (t := 158) ?hr ?_; (case hd => rfl); (case hg => rfl); (case hr => first | (go_simp; done) | (go_simp; rfl)); intro gl hg w1 hbox hb; have BL := Aside0.mk hbox; replace HB := Aside0.mk (xaV HB.out hb); clear hb hbox hg; have cgl_1 : w1.cell? ⟨gl, 1, none⟩ = some (.int .i64 kind) := (xaA BL.out 1).trans rfl; have zgl_1 := xaB BL.out 1; have cgl_2 : w1.cell? ⟨gl, 2, none⟩ = some (.int .i64 cur) := (xaA BL.out 2).trans rfl; have zgl_2 := xaB BL.out 2; have cgl_3 : w1.cell? ⟨gl, 3, none⟩ = some (.float .f64 x) := (xaA BL.out 3).trans rfl; have zgl_3 := xaB BL.out 3; have cgl_13 : w1.cell? ⟨gl, 13, none⟩ = some (.int .i64 0) := (xaA BL.out 13).trans rfl; have zgl_13 := xaB BL.out 13; have cgl_14 : w1.cell? ⟨gl, 14, none⟩ = some (.slice none 0 0) := (xaA BL.out 14).trans rfl; have zgl_14 := xaB BL.out 14) | ((with_reducible refine xaU (N := 4) rfl ?_); refine xaT ?hg (N := 4) ?hd (cs := #[.int .i64 p.f0, .int .i64 p.f1, .int .i64 p.f2, .int .i64 p.f3, .int .i64 p.f4]) (t := 145) ?hr ?_; (case hd => rfl); (case hg => rfl); (case hr => first | (go_simp; done) | (go_simp; rfl)); intro gp hg w2 hbox hb; have BP := Aside0.mk hbox; replace HB := Aside0.mk (xaV HB.out hb); replace BL := Aside0.mk (xaK BL.out hb); clear hb hbox hg; clear cgl_1 zgl_1 cgl_2 zgl_2 cgl_3 zgl_3 cgl_13 zgl_13 cgl_14 zgl_14; have cgl_1 : w2.cell? ⟨gl, 1, none⟩ = some (.int .i64 kind) := (xaA BL.out 1).trans rfl; have zgl_1 := xaB BL.out 1; have cgl_2 : w2.cell? ⟨gl, 2, none⟩ = some (.int .i64 cur) := (xaA BL.out 2).trans rfl; have zgl_2 := xaB BL.out 2; have cgl_3 : w2.cell? ⟨gl, 3, none⟩ = some (.float .f64 x) := (xaA BL.out 3).trans rfl; have zgl_3 := xaB BL.out 3; have cgl_13 : w2.cell? ⟨gl, 13, none⟩ = some (.int .i64 0) := (xaA BL.out 13).trans rfl; have zgl_13 := xaB BL.out 13; have cgl_14 : w2.cell? ⟨gl, 14, none⟩ = some (.slice none 0 0) := (xaA BL.out 14).trans rfl; have zgl_14 := xaB BL.out 14; have cgp_2 : w2.cell? ⟨gp, 2, none⟩ = some (.int .i64 p.f2) := (xaA BP.out 2).trans rfl; have zgp_2 := xaB BP.out 2; have cgp_3 : w2.cell? ⟨gp, 3, none⟩ = some (.int .i64 p.f3) := (xaA BP.out 3).trans rfl; have zgp_3 := xaB BP.out 3; have cgp_4 : w2.cell? ⟨gp, 4, none⟩ = some (.int .i64 p.f4) := (xaA BP.out 4).trans rfl; have zgp_4 := xaB BP.out 4) | ((with_reducible refine xaU (N := 6) rfl ?_); refine xaT ?hg (N := 6) ?hd (cs := #[.int .i64 0, .float .f64 0, .int .i64 0]) (t := 48) ?hr ?_; (case hd => rfl); (case hg => rfl); (case hr => first | (go_simp; done) | (go_simp; rfl)); intro gr hg w5 hbox hb; have GR := bG hg; have BR := Aside0.mk hbox; replace HB := Aside0.mk (xaV HB.out hb); replace BL := Aside0.mk (xaK BL.out hb); replace BP := Aside0.mk (xaK BP.out hb); clear hb hbox hg; clear cgl_1 zgl_1 cgl_2 zgl_2 cgl_3 zgl_3 cgl_13 zgl_13 cgl_14 zgl_14 cgp_2 zgp_2 cgp_3 zgp_3 cgp_4 zgp_4; have cgl_1 : w5.cell? ⟨gl, 1, none⟩ = some (.int .i64 kind) := (xaA BL.out 1).trans rfl; have zgl_1 := xaB BL.out 1; have cgl_2 : w5.cell? ⟨gl, 2, none⟩ = some (.int .i64 cur) := (xaA BL.out 2).trans rfl; have zgl_2 := xaB BL.out 2; have cgl_3 : w5.cell? ⟨gl, 3, none⟩ = some (.float .f64 x) := (xaA BL.out 3).trans rfl; have zgl_3 := xaB BL.out 3; have cgl_13 : w5.cell? ⟨gl, 13, none⟩ = some (.int .i64 0) := (xaA BL.out 13).trans rfl; have zgl_13 := xaB BL.out 13; have cgl_14 : w5.cell? ⟨gl, 14, none⟩ = some (.slice none 0 0) := (xaA BL.out 14).trans rfl; have zgl_14 := xaB BL.out 14; have cgp_2 : w5.cell? ⟨gp, 2, none⟩ = some (.int .i64 p.f2) := (xaA BP.out 2).trans rfl; have zgp_2 := xaB BP.out 2; have cgp_3 : w5.cell? ⟨gp, 3, none⟩ = some (.int .i64 p.f3) := (xaA BP.out 3).trans rfl; have zgp_3 := xaB BP.out 3; have cgp_4 : w5.cell? ⟨gp, 4, none⟩ = some (.int .i64 p.f4) := (xaA BP.out 4).trans rfl; have zgp_4 := xaB BP.out 4; obtain ⟨cr0, cr1, cr2, zr0, zr1, zr2⟩ := blk3 BR) | (go_at_call 143; (with_reducible refine (HY.out _).mono ?_); rintro e w3 ⟨rfl, hb⟩; replace HB := Aside0.mk (xaV (by repeat (first | exact HB.out | apply xaC | apply xaJ | apply xaM)) hb); replace BL := Aside0.mk (xaK (by repeat (first | exact BL.out | apply xaE | apply xaH | apply xaF)) hb); replace BP := Aside0.mk (xaK (by repeat (first | exact BP.out | apply xaE | apply xaH | apply xaF)) hb); replace BR := Aside0.mk (xaK (by repeat (first | exact BR.out | apply xaE | apply xaH | apply xaF)) hb); clear hb; clear cr0 cr1 cr2 zr0 zr1 zr2; clear cgl_1 zgl_1 cgl_2 zgl_2 cgl_3 zgl_3 cgl_13 zgl_13 cgl_14 zgl_14 cgp_2 zgp_2 cgp_3 zgp_3 cgp_4 zgp_4; have cgl_1 : w3.cell? ⟨gl, 1, none⟩ = some (.int .i64 kind) := (xaA BL.out 1).trans rfl; have zgl_1 := xaB BL.out 1; have cgl_2 : w3.cell? ⟨gl, 2, none⟩ = some (.int .i64 cur) := (xaA BL.out 2).trans rfl; have zgl_2 := xaB BL.out 2; have cgl_3 : w3.cell? ⟨gl, 3, none⟩ = some (.float .f64 x) := (xaA BL.out 3).trans rfl; have zgl_3 := xaB BL.out 3; have cgl_13 : w3.cell? ⟨gl, 13, none⟩ = some (.int .i64 0) := (xaA BL.out 13).trans rfl; have zgl_13 := xaB BL.out 13; have cgl_14 : w3.cell? ⟨gl, 14, none⟩ = some (.slice none 0 0) := (xaA BL.out 14).trans rfl; have zgl_14 := xaB BL.out 14; have cgp_2 : w3.cell? ⟨gp, 2, none⟩ = some (.int .i64 p.f2) := (xaA BP.out 2).trans rfl; have zgp_2 := xaB BP.out 2; have cgp_3 : w3.cell? ⟨gp, 3, none⟩ = some (.int .i64 p.f3) := (xaA BP.out 3).trans rfl; have zgp_3 := xaB BP.out 3; have cgp_4 : w3.cell? ⟨gp, 4, none⟩ = some (.int .i64 p.f4) := (xaA BP.out 4).trans rfl; have zgp_4 := xaB BP.out 4; obtain ⟨cr0, cr1, cr2, zr0, zr1, zr2⟩ := blk3 BR) | (go_at_call 97; (with_reducible refine (xfL r false HN.out _).mono ?_); rintro e w4 ⟨rfl, hw_⟩; obtain rfl := hw_.symm))
 (try simp only [Exit.inBlock, Exit.then])
 refine bodyPost_ret (xgP rfl _ _ gr 48 _ (0, 0) _ rfl (xeN (xeN (xeN BR.out 0 _) 1 _) 2 _) Tryz.underlying48 rfl (size48.trans rfl)) rfl ?_
 exact ⟨by simp, bB⟩
theorem paid_nan (kind cur : Int) (x y : Nat) (a b n : Int) (p : S145) (hk : 1 ≤ kind ∧ kind ≤ 5) (hx : numB x = true) (hy : numB y = true) (hp : (0 ≤ p.f2 ∧ p.f2 ≤ 109572) ∧ (0 ≤ p.f3 ∧ p.f3 ≤ 109572)) (w : World) (hr : floatBits .mul .f64 (mulN x y) (yearF kind p.f2 p.f3) = none) :
  Calls Tryz.prog 119 #[.agg #[.int .i64 1, .int .i64 kind, .int .i64 cur, .float .f64 x, .float .f64 y, .int .i64 a, .int .i64 b, .int .i64 n, .int .i64 3, .int .i64 1, .int .i64 0, .int .i64 0, .int .i64 0, .int .i64 0, .slice none 0 0], .agg #[.int .i64 p.f0, .int .i64 p.f1, .int .i64 p.f2, .int .i64 p.f3, .int .i64 p.f4], .float .f64 y] w fun e w' => e = .returned (.tuple #[.agg #[.int .i64 0, .float .f64 0, .int .i64 0], .int .i64 91]) ∧ Below w.heap.size w w' := by
 have HB := Aside0.mk (Below.refl w.heap.size w)
 have hY := fun w => year_ok kind p.f2 p.f3 hk (frac_in hp) w
 have hm := xfQ hx hy
 obtain ⟨u, hu⟩ : ∃ u, u = mulN x y := ⟨_, rfl⟩
 obtain ⟨v, hv⟩ : ∃ v, v = yearF kind p.f2 p.f3 := ⟨_, rfl⟩
 rw [← hu, ← hv] at hr
 have hop2 : ∀ t w, (binOp .mul t (.float .f64 u) (.float .f64 v)).run Tryz.prog w = .ok (.float .f64 (nanV u v w)) w.drew := fun t w => nan_run hr t w
 clear hr
 rw [← hu] at hm
 rw [← hv] at hY
 have hop : ∀ t w, (binOp .mul t (.float .f64 x) (.float .f64 y)).run Tryz.prog w = .ok (.float .f64 u) w := fun t w => run_float_arith w .mul t .f64 x y u hm
 have HY := Aside0.mk hY;clear hY hm hu hv hk hx hy hp
 go_enter Tryz.func119, Tryz.ntmps119
 go_wp2_with (first | ((with_reducible refine xaU (N := 3) rfl ?_); refine xaT ?hg (N := 3) ?hd (cs := #[.int .i64 1, .int .i64 kind, .int .i64 cur, .float .f64 x, .float .f64 y, .int .i64 a, .int .i64 b, .int .i64 n, .int .i64 3, .int .i64 1, .int .i64 0, .int .i64 0, .int .i64 0, .int .i64 0, .slice none 0 0]) (t := 158) ?hr ?_; (case hd => rfl); (case hg => rfl); (case hr => first | (go_simp; done) | (go_simp; rfl)); intro gl hg w1 hbox hb; have BL := Aside0.mk hbox; replace HB := Aside0.mk (xaV HB.out hb); clear hb hbox hg; have cgl_1 : w1.cell? ⟨gl, 1, none⟩ = some (.int .i64 kind) := (xaA BL.out 1).trans rfl; have zgl_1 := xaB BL.out 1; have cgl_2 : w1.cell? ⟨gl, 2, none⟩ = some (.int .i64 cur) := (xaA BL.out 2).trans rfl; have zgl_2 := xaB BL.out 2; have cgl_3 : w1.cell? ⟨gl, 3, none⟩ = some (.float .f64 x) := (xaA BL.out 3).trans rfl; have zgl_3 := xaB BL.out 3; have cgl_13 : w1.cell? ⟨gl, 13, none⟩ = some (.int .i64 0) := (xaA BL.out 13).trans rfl; have zgl_13 := xaB BL.out 13; have cgl_14 : w1.cell? ⟨gl, 14, none⟩ = some (.slice none 0 0) := (xaA BL.out 14).trans rfl; have zgl_14 := xaB BL.out 14) | ((with_reducible refine xaU (N := 4) rfl ?_); refine xaT ?hg (N := 4) ?hd (cs := #[.int .i64 p.f0, .int .i64 p.f1, .int .i64 p.f2, .int .i64 p.f3, .int .i64 p.f4]) (t := 145) ?hr ?_; (case hd => rfl); (case hg => rfl); (case hr => first | (go_simp; done) | (go_simp; rfl)); intro gp hg w2 hbox hb; have BP := Aside0.mk hbox; replace HB := Aside0.mk (xaV HB.out hb); replace BL := Aside0.mk (xaK BL.out hb); clear hb hbox hg; clear cgl_1 zgl_1 cgl_2 zgl_2 cgl_3 zgl_3 cgl_13 zgl_13 cgl_14 zgl_14; have cgl_1 : w2.cell? ⟨gl, 1, none⟩ = some (.int .i64 kind) := (xaA BL.out 1).trans rfl; have zgl_1 := xaB BL.out 1; have cgl_2 : w2.cell? ⟨gl, 2, none⟩ = some (.int .i64 cur) := (xaA BL.out 2).trans rfl; have zgl_2 := xaB BL.out 2; have cgl_3 : w2.cell? ⟨gl, 3, none⟩ = some (.float .f64 x) := (xaA BL.out 3).trans rfl; have zgl_3 := xaB BL.out 3; have cgl_13 : w2.cell? ⟨gl, 13, none⟩ = some (.int .i64 0) := (xaA BL.out 13).trans rfl; have zgl_13 := xaB BL.out 13; have cgl_14 : w2.cell? ⟨gl, 14, none⟩ = some (.slice none 0 0) := (xaA BL.out 14).trans rfl; have zgl_14 := xaB BL.out 14; have cgp_2 : w2.cell? ⟨gp, 2, none⟩ = some (.int .i64 p.f2) := (xaA BP.out 2).trans rfl; have zgp_2 := xaB BP.out 2; have cgp_3 : w2.cell? ⟨gp, 3, none⟩ = some (.int .i64 p.f3) := (xaA BP.out 3).trans rfl; have zgp_3 := xaB BP.out 3; have cgp_4 : w2.cell? ⟨gp, 4, none⟩ = some (.int .i64 p.f4) := (xaA BP.out 4).trans rfl; have zgp_4 := xaB BP.out 4) | ((with_reducible refine xaU (N := 6) rfl ?_); refine xaT ?hg (N := 6) ?hd (cs := #[.int .i64 0, .float .f64 0, .int .i64 0]) (t := 48) ?hr ?_; (case hd => rfl); (case hg => rfl); (case hr => first | (go_simp; done) | (go_simp; rfl)); intro gr hg w5 hbox hb; have GR := bG hg; have BR := Aside0.mk hbox; replace HB := Aside0.mk (xaV HB.out hb); replace BL := Aside0.mk (xaK BL.out hb); replace BP := Aside0.mk (xaK BP.out hb); clear hb hbox hg; clear cgl_1 zgl_1 cgl_2 zgl_2 cgl_3 zgl_3 cgl_13 zgl_13 cgl_14 zgl_14 cgp_2 zgp_2 cgp_3 zgp_3 cgp_4 zgp_4; have cgl_1 : w5.cell? ⟨gl, 1, none⟩ = some (.int .i64 kind) := (xaA BL.out 1).trans rfl; have zgl_1 := xaB BL.out 1; have cgl_2 : w5.cell? ⟨gl, 2, none⟩ = some (.int .i64 cur) := (xaA BL.out 2).trans rfl; have zgl_2 := xaB BL.out 2; have cgl_3 : w5.cell? ⟨gl, 3, none⟩ = some (.float .f64 x) := (xaA BL.out 3).trans rfl; have zgl_3 := xaB BL.out 3; have cgl_13 : w5.cell? ⟨gl, 13, none⟩ = some (.int .i64 0) := (xaA BL.out 13).trans rfl; have zgl_13 := xaB BL.out 13; have cgl_14 : w5.cell? ⟨gl, 14, none⟩ = some (.slice none 0 0) := (xaA BL.out 14).trans rfl; have zgl_14 := xaB BL.out 14; have cgp_2 : w5.cell? ⟨gp, 2, none⟩ = some (.int .i64 p.f2) := (xaA BP.out 2).trans rfl; have zgp_2 := xaB BP.out 2; have cgp_3 : w5.cell? ⟨gp, 3, none⟩ = some (.int .i64 p.f3) := (xaA BP.out 3).trans rfl; have zgp_3 := xaB BP.out 3; have cgp_4 : w5.cell? ⟨gp, 4, none⟩ = some (.int .i64 p.f4) := (xaA BP.out 4).trans rfl; have zgp_4 := xaB BP.out 4; obtain ⟨cr0, cr1, cr2, zr0, zr1, zr2⟩ := blk3 BR) | (go_at_call 143; (with_reducible refine (HY.out _).mono ?_); rintro e w3 ⟨rfl, hb⟩; replace HB := Aside0.mk (xaV (by repeat (first | exact HB.out | apply xaC | apply xaJ | apply xaM)) hb); replace BL := Aside0.mk (xaK (by repeat (first | exact BL.out | apply xaE | apply xaH | apply xaF)) hb); replace BP := Aside0.mk (xaK (by repeat (first | exact BP.out | apply xaE | apply xaH | apply xaF)) hb); replace BR := Aside0.mk (xaK (by repeat (first | exact BR.out | apply xaE | apply xaH | apply xaF)) hb); clear hb; clear cr0 cr1 cr2 zr0 zr1 zr2; clear cgl_1 zgl_1 cgl_2 zgl_2 cgl_3 zgl_3 cgl_13 zgl_13 cgl_14 zgl_14 cgp_2 zgp_2 cgp_3 zgp_3 cgp_4 zgp_4; have cgl_1 : w3.cell? ⟨gl, 1, none⟩ = some (.int .i64 kind) := (xaA BL.out 1).trans rfl; have zgl_1 := xaB BL.out 1; have cgl_2 : w3.cell? ⟨gl, 2, none⟩ = some (.int .i64 cur) := (xaA BL.out 2).trans rfl; have zgl_2 := xaB BL.out 2; have cgl_3 : w3.cell? ⟨gl, 3, none⟩ = some (.float .f64 x) := (xaA BL.out 3).trans rfl; have zgl_3 := xaB BL.out 3; have cgl_13 : w3.cell? ⟨gl, 13, none⟩ = some (.int .i64 0) := (xaA BL.out 13).trans rfl; have zgl_13 := xaB BL.out 13; have cgl_14 : w3.cell? ⟨gl, 14, none⟩ = some (.slice none 0 0) := (xaA BL.out 14).trans rfl; have zgl_14 := xaB BL.out 14; have cgp_2 : w3.cell? ⟨gp, 2, none⟩ = some (.int .i64 p.f2) := (xaA BP.out 2).trans rfl; have zgp_2 := xaB BP.out 2; have cgp_3 : w3.cell? ⟨gp, 3, none⟩ = some (.int .i64 p.f3) := (xaA BP.out 3).trans rfl; have zgp_3 := xaB BP.out 3; have cgp_4 : w3.cell? ⟨gp, 4, none⟩ = some (.int .i64 p.f4) := (xaA BP.out 4).trans rfl; have zgp_4 := xaB BP.out 4; obtain ⟨cr0, cr1, cr2, zr0, zr1, zr2⟩ := blk3 BR) | (go_at_call 97; (with_reducible refine (xfL _ false (nan_num _ _ _) _).mono ?_); rintro e w4 ⟨rfl, hw_⟩; obtain rfl := hw_.symm))
 (try simp only [Exit.inBlock, Exit.then])
 refine bodyPost_ret (xgP rfl _ _ gr 48 _ (0, 0) _ rfl (xaF (xeN (xeN (xeN BR.out 0 _) 1 _) 2 _)) Tryz.underlying48 rfl (size48.trans rfl)) rfl ?_
 exact ⟨by simp, bB⟩
theorem paid_ok (kind cur : Int) (x y : Nat) (a b n : Int) (p : S145) (hk : 1 ≤ kind ∧ kind ≤ 5) (hx : numB x = true) (hy : numB y = true) (hp : (0 ≤ p.f2 ∧ p.f2 ≤ 109572) ∧ (0 ≤ p.f3 ∧ p.f3 ≤ 109572)) (w : World) :
  Calls Tryz.prog 119 #[.agg #[.int .i64 1, .int .i64 kind, .int .i64 cur, .float .f64 x, .float .f64 y, .int .i64 a, .int .i64 b, .int .i64 n, .int .i64 3, .int .i64 1, .int .i64 0, .int .i64 0, .int .i64 0, .int .i64 0, .slice none 0 0], .agg #[.int .i64 p.f0, .int .i64 p.f1, .int .i64 p.f2, .int .i64 p.f3, .int .i64 p.f4], .float .f64 y] w fun e w' => e = .returned (.tuple #[.agg #[.int .i64 (paidF kind cur x y p).1.f0, .float .f64 (paidF kind cur x y p).1.f1, .int .i64 (paidF kind cur x y p).1.f2], .int .i64 (paidF kind cur x y p).2]) ∧ Below w.heap.size w w' := by
 cases hr : floatBits .mul .f64 (mulN x y) (yearF kind p.f2 p.f3) with
 | none =>
  have e : paidF kind cur x y p = (⟨0, 0, 0⟩, 91) := by unfold paidF; rw [hr]
  rw [e]
  exact paid_nan kind cur x y a b n p hk hx hy hp w hr
 | some r =>
  by_cases hn : numB r = true
  ·
   have e : paidF kind cur x y p = (⟨p.f4, r, cur⟩, 0) := by unfold paidF; rw [hr]; exact if_pos hn
   rw [e]
   exact paid_num kind cur x y a b n p hk hx hy hp w r hr hn
  ·
   have e : paidF kind cur x y p = (⟨0, 0, 0⟩, 91) := by unfold paidF; rw [hr]; exact if_neg hn
   rw [e]
   exact paid_inf kind cur x y a b n p hk hx hy hp w r hr (Bool.eq_false_iff.2 hn)
instance : Flat k145 := ⟨fun {w w' x cs} h => by rw [k145_open h]; exact k145_mk w' x⟩
def payAll (kind cur : Int) (x y : Nat) : List S145 → List S48 → List S48 × Int
  | [], acc => (acc, 0)
  | p :: ps, acc => if (paidF kind cur x y p).2 = 0 then payAll kind cur x y ps (acc ++ [(paidF kind cur x y p).1]) else ([], (paidF kind cur x y p).2)
theorem rd145 {l : List S145} {i : Nat} (h : i < l.length) : xfU l (i : Int) = l[i] := by
  unfold xfU
  simp [h]
theorem Sl.low {α : Type} {d : Kd α} {e : TypeId} {w : World} {base b0 : Nat} {F : Nat → Prop} {A : Option Addr} {c : Nat} {xs : List α} (h : Sl d e w base F A c xs) (hb : b0 ≤ base) : Sl d e w b0 F A c xs :=
  ⟨h.le, h.lim, h.row.imp_right (fun ⟨b, off, cur, inner, h1, h2, h3, h4⟩ => ⟨b, off, cur, inner, h1, h2, Nat.le_trans hb h3, h4⟩)⟩
theorem leg_err (kind cur : Int) (x y : Nat) (a b n : Int) (l : List S145) (w : World) (ee : Int) (he : ¬ ee = 0) (hg : ∀ w, Calls Tryz.prog 118 #[.agg #[.int .i64 1, .int .i64 kind, .int .i64 cur, .float .f64 x, .float .f64 y, .int .i64 a, .int .i64 b, .int .i64 n, .int .i64 3, .int .i64 1, .int .i64 0, .int .i64 0, .int .i64 0, .int .i64 0, .slice none 0 0], .int .i64 1] w fun e w' => ∃ v0, e = .returned (.tuple #[v0, .int .i64 ee]) ∧ Kd.R k145 145 w' w.heap.size (fun _ => True) v0 l ∧ Below w.heap.size w w') :
  Calls Tryz.prog 96 #[.agg #[.int .i64 1, .int .i64 kind, .int .i64 cur, .float .f64 x, .float .f64 y, .int .i64 a, .int .i64 b, .int .i64 n, .int .i64 3, .int .i64 1, .int .i64 0, .int .i64 0, .int .i64 0, .int .i64 0, .slice none 0 0]] w fun e w' => e = .returned (.tuple #[.slice none 0 0, .int .i64 ee]) ∧ Below w.heap.size w w' := by
 have HB := Aside0.mk (Below.refl w.heap.size w)
 have HG := Aside0.mk hg
 have t0 : (ee != 0) = true := bne_iff_ne.mpr he
 clear hg he
 go_enter Tryz.func96, Tryz.ntmps96
 go_wp2_with (first | ((with_reducible refine xaU (N := 1) rfl ?_); refine xaT ?hg (N := 1) ?hd (cs := #[.int .i64 1, .int .i64 kind, .int .i64 cur, .float .f64 x, .float .f64 y, .int .i64 a, .int .i64 b, .int .i64 n, .int .i64 3, .int .i64 1, .int .i64 0, .int .i64 0, .int .i64 0, .int .i64 0, .slice none 0 0]) (t := 158) ?hr ?_; (case hd => rfl); (case hg => rfl); (case hr => first | (go_simp; done) | (go_simp; rfl)); intro gl hg w1 hbox hb; have BL := Aside0.mk hbox; replace HB := Aside0.mk (xaV HB.out hb); clear hb hbox hg; have cgl_0 : w1.cell? ⟨gl, 0, none⟩ = some (.int .i64 1) := (xaA BL.out 0).trans rfl; have zgl_0 := xaB BL.out 0; have cgl_1 : w1.cell? ⟨gl, 1, none⟩ = some (.int .i64 kind) := (xaA BL.out 1).trans rfl; have zgl_1 := xaB BL.out 1; have cgl_2 : w1.cell? ⟨gl, 2, none⟩ = some (.int .i64 cur) := (xaA BL.out 2).trans rfl; have zgl_2 := xaB BL.out 2; have cgl_3 : w1.cell? ⟨gl, 3, none⟩ = some (.float .f64 x) := (xaA BL.out 3).trans rfl; have zgl_3 := xaB BL.out 3; have cgl_4 : w1.cell? ⟨gl, 4, none⟩ = some (.float .f64 y) := (xaA BL.out 4).trans rfl; have zgl_4 := xaB BL.out 4; have cgl_5 : w1.cell? ⟨gl, 5, none⟩ = some (.int .i64 a) := (xaA BL.out 5).trans rfl; have zgl_5 := xaB BL.out 5; have cgl_6 : w1.cell? ⟨gl, 6, none⟩ = some (.int .i64 b) := (xaA BL.out 6).trans rfl; have zgl_6 := xaB BL.out 6; have cgl_7 : w1.cell? ⟨gl, 7, none⟩ = some (.int .i64 n) := (xaA BL.out 7).trans rfl; have zgl_7 := xaB BL.out 7; have cgl_8 : w1.cell? ⟨gl, 8, none⟩ = some (.int .i64 3) := (xaA BL.out 8).trans rfl; have zgl_8 := xaB BL.out 8; have cgl_9 : w1.cell? ⟨gl, 9, none⟩ = some (.int .i64 1) := (xaA BL.out 9).trans rfl; have zgl_9 := xaB BL.out 9; have cgl_10 : w1.cell? ⟨gl, 10, none⟩ = some (.int .i64 0) := (xaA BL.out 10).trans rfl; have zgl_10 := xaB BL.out 10; have cgl_11 : w1.cell? ⟨gl, 11, none⟩ = some (.int .i64 0) := (xaA BL.out 11).trans rfl; have zgl_11 := xaB BL.out 11; have cgl_12 : w1.cell? ⟨gl, 12, none⟩ = some (.int .i64 0) := (xaA BL.out 12).trans rfl; have zgl_12 := xaB BL.out 12; have cgl_13 : w1.cell? ⟨gl, 13, none⟩ = some (.int .i64 0) := (xaA BL.out 13).trans rfl; have zgl_13 := xaB BL.out 13; have cgl_14 : w1.cell? ⟨gl, 14, none⟩ = some (.slice none 0 0) := (xaA BL.out 14).trans rfl; have zgl_14 := xaB BL.out 14) | (go_at_call 118; (with_reducible refine (HG.out _).mono ?_); rintro e w2 ⟨v0, rfl, ho, hb⟩; replace HB := Aside0.mk (xaV (by repeat (first | exact HB.out | apply xaJ | apply xaM)) hb); clear ho hb; clear cgl_0 zgl_0 cgl_1 zgl_1 cgl_2 zgl_2 cgl_3 zgl_3 cgl_4 zgl_4 cgl_5 zgl_5 cgl_6 zgl_6 cgl_7 zgl_7 cgl_8 zgl_8 cgl_9 zgl_9 cgl_10 zgl_10 cgl_11 zgl_11 cgl_12 zgl_12 cgl_13 zgl_13 cgl_14 zgl_14))
 go_ret2
 exact ⟨rfl, by repeat (first | exact HB.out | apply xaJ | apply xaM)⟩
theorem leg_ok (kind cur : Int) (x y : Nat) (a b n : Int) (l : List S145) (w : World) (hk : 1 ≤ kind ∧ kind ≤ 5) (hx : numB x = true) (hy : numB y = true) (hl : l.length ≤ 5000) (hin : ∀ p ∈ l, (0 ≤ p.f2 ∧ p.f2 ≤ 109572) ∧ (0 ≤ p.f3 ∧ p.f3 ≤ 109572)) (hg : ∀ w, Calls Tryz.prog 118 #[.agg #[.int .i64 1, .int .i64 kind, .int .i64 cur, .float .f64 x, .float .f64 y, .int .i64 a, .int .i64 b, .int .i64 n, .int .i64 3, .int .i64 1, .int .i64 0, .int .i64 0, .int .i64 0, .int .i64 0, .slice none 0 0], .int .i64 1] w fun e w' => ∃ v0, e = .returned (.tuple #[v0, .int .i64 0]) ∧ Kd.R k145 145 w' w.heap.size (fun _ => True) v0 l ∧ Below w.heap.size w w') (rl : List S48) (re : Int) (hres : payAll kind cur x y l [] = (rl, re)) :
  Calls Tryz.prog 96 #[.agg #[.int .i64 1, .int .i64 kind, .int .i64 cur, .float .f64 x, .float .f64 y, .int .i64 a, .int .i64 b, .int .i64 n, .int .i64 3, .int .i64 1, .int .i64 0, .int .i64 0, .int .i64 0, .int .i64 0, .slice none 0 0]] w fun e w' => ∃ A' c', e = .returned (.tuple #[.slice A' rl.length c', .int .i64 re]) ∧ Sl k48 48 w' w.heap.size (fun _ => True) A' c' rl ∧ Below w.heap.size w w' := by
 have HB := Aside0.mk (Below.refl w.heap.size w)
 have HG := Aside0.mk hg;have HL := Aside0.mk hl
 have HPD : Aside0 (∀ i (h : i < l.length) w, Calls Tryz.prog 119 #[.agg #[.int .i64 1, .int .i64 kind, .int .i64 cur, .float .f64 x, .float .f64 y, .int .i64 a, .int .i64 b, .int .i64 n, .int .i64 3, .int .i64 1, .int .i64 0, .int .i64 0, .int .i64 0, .int .i64 0, .slice none 0 0], .agg #[.int .i64 l[i].f0, .int .i64 l[i].f1, .int .i64 l[i].f2, .int .i64 l[i].f3, .int .i64 l[i].f4], .float .f64 y] w fun e w' => e = .returned (.tuple #[.agg #[.int .i64 (paidF kind cur x y l[i]).1.f0, .float .f64 (paidF kind cur x y l[i]).1.f1, .int .i64 (paidF kind cur x y l[i]).1.f2], .int .i64 (paidF kind cur x y l[i]).2]) ∧ Below w.heap.size w w') := ⟨fun i h w => paid_ok kind cur x y a b n l[i] hk hx hy (hin _ (List.getElem_mem h)) w⟩
 have HRES := Aside0.mk hres;clear hg hk hx hy hl hin hres
 go_enter Tryz.func96, Tryz.ntmps96
 go_wp2_with (first | ((with_reducible refine xaU (N := 1) rfl ?_); refine xaT ?hg (N := 1) ?hd (cs := #[.int .i64 1, .int .i64 kind, .int .i64 cur, .float .f64 x, .float .f64 y, .int .i64 a, .int .i64 b, .int .i64 n, .int .i64 3, .int .i64 1, .int .i64 0, .int .i64 0, .int .i64 0, .int .i64 0, .slice none 0 0]) (t := 158) ?hr ?_; (case hd => rfl); (case hg => rfl); (case hr => first | (go_simp; done) | (go_simp; rfl)); intro gl hg w1 hbox hb; have BL := Aside0.mk hbox; replace HB := Aside0.mk (xaV HB.out hb); clear hb hbox hg; have cgl_0 : w1.cell? ⟨gl, 0, none⟩ = some (.int .i64 1) := (xaA BL.out 0).trans rfl; have zgl_0 := xaB BL.out 0; have cgl_1 : w1.cell? ⟨gl, 1, none⟩ = some (.int .i64 kind) := (xaA BL.out 1).trans rfl; have zgl_1 := xaB BL.out 1; have cgl_2 : w1.cell? ⟨gl, 2, none⟩ = some (.int .i64 cur) := (xaA BL.out 2).trans rfl; have zgl_2 := xaB BL.out 2; have cgl_3 : w1.cell? ⟨gl, 3, none⟩ = some (.float .f64 x) := (xaA BL.out 3).trans rfl; have zgl_3 := xaB BL.out 3; have cgl_4 : w1.cell? ⟨gl, 4, none⟩ = some (.float .f64 y) := (xaA BL.out 4).trans rfl; have zgl_4 := xaB BL.out 4; have cgl_5 : w1.cell? ⟨gl, 5, none⟩ = some (.int .i64 a) := (xaA BL.out 5).trans rfl; have zgl_5 := xaB BL.out 5; have cgl_6 : w1.cell? ⟨gl, 6, none⟩ = some (.int .i64 b) := (xaA BL.out 6).trans rfl; have zgl_6 := xaB BL.out 6; have cgl_7 : w1.cell? ⟨gl, 7, none⟩ = some (.int .i64 n) := (xaA BL.out 7).trans rfl; have zgl_7 := xaB BL.out 7; have cgl_8 : w1.cell? ⟨gl, 8, none⟩ = some (.int .i64 3) := (xaA BL.out 8).trans rfl; have zgl_8 := xaB BL.out 8; have cgl_9 : w1.cell? ⟨gl, 9, none⟩ = some (.int .i64 1) := (xaA BL.out 9).trans rfl; have zgl_9 := xaB BL.out 9; have cgl_10 : w1.cell? ⟨gl, 10, none⟩ = some (.int .i64 0) := (xaA BL.out 10).trans rfl; have zgl_10 := xaB BL.out 10; have cgl_11 : w1.cell? ⟨gl, 11, none⟩ = some (.int .i64 0) := (xaA BL.out 11).trans rfl; have zgl_11 := xaB BL.out 11; have cgl_12 : w1.cell? ⟨gl, 12, none⟩ = some (.int .i64 0) := (xaA BL.out 12).trans rfl; have zgl_12 := xaB BL.out 12; have cgl_13 : w1.cell? ⟨gl, 13, none⟩ = some (.int .i64 0) := (xaA BL.out 13).trans rfl; have zgl_13 := xaB BL.out 13; have cgl_14 : w1.cell? ⟨gl, 14, none⟩ = some (.slice none 0 0) := (xaA BL.out 14).trans rfl; have zgl_14 := xaB BL.out 14) | (go_at_call 118; (with_reducible refine (HG.out _).mono ?_); rintro e w2 ⟨v0, rfl, ho, hb⟩; obtain ⟨A, c, rfl, hs⟩ := Sl.of_R ho; have HR := Aside0.mk hs.C; replace HB := Aside0.mk (xaV (by repeat (first | exact HB.out | apply xaJ | apply xaM)) hb); replace BL := Aside0.mk (xaK (by repeat (first | exact BL.out | apply xaH | apply xaF)) hb); clear ho hb hs; clear cgl_0 zgl_0 cgl_1 zgl_1 cgl_2 zgl_2 cgl_3 zgl_3 cgl_4 zgl_4 cgl_5 zgl_5 cgl_6 zgl_6 cgl_7 zgl_7 cgl_8 zgl_8 cgl_9 zgl_9 cgl_10 zgl_10 cgl_11 zgl_11 cgl_12 zgl_12 cgl_13 zgl_13 cgl_14 zgl_14) | ((with_reducible refine xaU (N := 21) rfl ?_); refine Kd.xfN k48 (w0 := w2) w2.heap.size 48 rfl (N := 21) rfl 24 _ _ rfl (l.length : Int) rfl rfl Tryz.underlying24 (.agg #[.int .i64 0, .float .f64 0, .int .i64 0]) 24 info48 rfl (by decide) (by omega) z48 (ok := fun _ => True) (okp := fun _ => True) (xeZ _ _ _ z48) (fun _ hk => hk) trivial (by omega) (by have := HL.out; omega) (by repeat (first | exact Below.refl _ _ | apply xaJ | apply xaM)) (by simp) ?_; intro v0 w3 ho hb hg_ hnew_; clear hg_ hnew_; have HO := Aside0.mk ho; have HB2 := Aside0.mk hb; clear ho hb))
 go_loopg [6, 24] (l.length) (fun kq v6 v24 w' => ∃ (i : Nat) (acc : List S48), i ≤ l.length ∧ kq + i = l.length ∧ v24 = .int .i64 i ∧ Aside0 (acc.length = i) ∧ Aside0 (payAll kind cur x y (l.drop i) acc = (rl, re)) ∧ Aside0 (Kd.R k48 48 w' w2.heap.size (fun _ => True) v6 acc) ∧ Aside0 (Below w2.heap.size w2 w'))
 case atStart => exact ⟨0, [], by omega, by omega, rfl, ⟨rfl⟩, ⟨HRES.out⟩, ⟨by repeat (first | exact HO.out | apply Kd.xbK | apply Kd.R_drew)⟩, ⟨by repeat (first | exact HB2.out | apply xaJ | apply xaM)⟩⟩
 case round =>
  obtain ⟨i, acc, hi, hk, rfl, HAL, HPA, HO, HBW⟩ := hrel
  by_cases hlt : i < l.length
  ·
   obtain ⟨ad, e, h0, h1, h2, h3, h4⟩ := at_T145 (Kd.xbP HR.out HBW.out) (i : Int) (by omega) (by omega)
   subst e
   rw [rd145 hlt] at h0 h1 h2 h3 h4
   rw [Int.toNat_natCast] at h0 h1 h2 h3 h4
   have hpa := HPA.out
   rw [List.drop_eq_getElem_cons hlt, payAll] at hpa
   have hp := HPD.out i hlt
   obtain ⟨p, hpp⟩ : ∃ p, p = l[i] := ⟨_, rfl⟩
   rw [← hpp] at h0 h1 h2 h3 h4 hp hpa
   clear hpp
   obtain ⟨⟨q, ep⟩, hq⟩ : ∃ q, q = paidF kind cur x y p := ⟨_, rfl⟩
   rw [← hq] at hp hpa
   clear hq HPA;have HP := Aside0.mk hp;have HPA := Aside0.mk hpa;clear hp hpa
   simp only at HP HPA
   have hmx : (i : Int) + 1 ≤ 9223372036854775807 := by have := HL.out; omega
   go_upto_region 8 with (fail)
   clear h0 h1 h2 h3 h4
   have BP := Aside0.mk (xbB wr (.cells #[.int .i64 p.f0, .int .i64 p.f1, .int .i64 p.f2, .int .i64 p.f3, .int .i64 p.f4] 145))
   have BLW := Aside0.mk (xaK (xaK BL.out HBW.out) (xaC (Below.refl wr.heap.size wr) (.cells #[.int .i64 p.f0, .int .i64 p.f1, .int .i64 p.f2, .int .i64 p.f3, .int .i64 p.f4] 145)))
   replace HBW := Aside0.mk (xaC HBW.out (.cells #[.int .i64 p.f0, .int .i64 p.f1, .int .i64 p.f2, .int .i64 p.f3, .int .i64 p.f4] 145))
   replace HO := Aside0.mk (Kd.xbJ HO.out (.cells #[.int .i64 p.f0, .int .i64 p.f1, .int .i64 p.f2, .int .i64 p.f3, .int .i64 p.f4] 145))
   generalize wr.heap.size = gp at BP ⊢
   generalize wr.alloc (.cells #[.int .i64 p.f0, .int .i64 p.f1, .int .i64 p.f2, .int .i64 p.f3, .int .i64 p.f4] 145) = W at BP BLW HBW HO ⊢
   obtain ⟨cp0, cp1, cp2, cp3, cp4, zp0, zp1, zp2, zp3, zp4⟩ := blk5 BP
   have cgl_0 : W.cell? ⟨gl, 0, none⟩ = some (.int .i64 1) := (xaA BLW.out 0).trans rfl; have zgl_0 := xaB BLW.out 0; have cgl_1 : W.cell? ⟨gl, 1, none⟩ = some (.int .i64 kind) := (xaA BLW.out 1).trans rfl; have zgl_1 := xaB BLW.out 1; have cgl_2 : W.cell? ⟨gl, 2, none⟩ = some (.int .i64 cur) := (xaA BLW.out 2).trans rfl; have zgl_2 := xaB BLW.out 2; have cgl_3 : W.cell? ⟨gl, 3, none⟩ = some (.float .f64 x) := (xaA BLW.out 3).trans rfl; have zgl_3 := xaB BLW.out 3; have cgl_4 : W.cell? ⟨gl, 4, none⟩ = some (.float .f64 y) := (xaA BLW.out 4).trans rfl; have zgl_4 := xaB BLW.out 4; have cgl_5 : W.cell? ⟨gl, 5, none⟩ = some (.int .i64 a) := (xaA BLW.out 5).trans rfl; have zgl_5 := xaB BLW.out 5; have cgl_6 : W.cell? ⟨gl, 6, none⟩ = some (.int .i64 b) := (xaA BLW.out 6).trans rfl; have zgl_6 := xaB BLW.out 6; have cgl_7 : W.cell? ⟨gl, 7, none⟩ = some (.int .i64 n) := (xaA BLW.out 7).trans rfl; have zgl_7 := xaB BLW.out 7; have cgl_8 : W.cell? ⟨gl, 8, none⟩ = some (.int .i64 3) := (xaA BLW.out 8).trans rfl; have zgl_8 := xaB BLW.out 8; have cgl_9 : W.cell? ⟨gl, 9, none⟩ = some (.int .i64 1) := (xaA BLW.out 9).trans rfl; have zgl_9 := xaB BLW.out 9; have cgl_10 : W.cell? ⟨gl, 10, none⟩ = some (.int .i64 0) := (xaA BLW.out 10).trans rfl; have zgl_10 := xaB BLW.out 10; have cgl_11 : W.cell? ⟨gl, 11, none⟩ = some (.int .i64 0) := (xaA BLW.out 11).trans rfl; have zgl_11 := xaB BLW.out 11; have cgl_12 : W.cell? ⟨gl, 12, none⟩ = some (.int .i64 0) := (xaA BLW.out 12).trans rfl; have zgl_12 := xaB BLW.out 12; have cgl_13 : W.cell? ⟨gl, 13, none⟩ = some (.int .i64 0) := (xaA BLW.out 13).trans rfl; have zgl_13 := xaB BLW.out 13; have cgl_14 : W.cell? ⟨gl, 14, none⟩ = some (.slice none 0 0) := (xaA BLW.out 14).trans rfl; have zgl_14 := xaB BLW.out 14
   by_cases he : ep = 0
   ·
    subst he
    have HPB := Aside0.mk (show payAll kind cur x y (l.drop (i + 1)) (acc ++ [q]) = (rl, re) by have h := HPA.out; rw [if_pos rfl] at h; exact h)
    clear HPA
    go_wp2_with (first | (go_at_call 119; (with_reducible refine (HP.out _).mono ?_); rintro e w5 ⟨rfl, hb⟩; replace HBW := Aside0.mk (xaV HBW.out hb); replace HO := Aside0.mk (Kd.xbL HO.out hb); clear hb; clear cp0 cp1 cp2 cp3 cp4 zp0 zp1 zp2 zp3 zp4; clear cgl_0 zgl_0 cgl_1 zgl_1 cgl_2 zgl_2 cgl_3 zgl_3 cgl_4 zgl_4 cgl_5 zgl_5 cgl_6 zgl_6 cgl_7 zgl_7 cgl_8 zgl_8 cgl_9 zgl_9 cgl_10 zgl_10 cgl_11 zgl_11 cgl_12 zgl_12 cgl_13 zgl_13 cgl_14 zgl_14) | ((with_reducible refine xaR (b := .append) (xs := #[.tmp 39, .tmp 41]) rfl ?_); at_builtin; refine Kd.xbZ k48 (w0 := w2) w2.heap.size rfl (.tmp 39) (.tmp 41) 24 48 (.agg #[.int .i64 0, .float .f64 0, .int .i64 0]) 24 rfl Tryz.underlying24 info48 rfl (by decide) (by omega) u6 acc q [.int .i64 q.f0, .float .f64 q.f1, .int .i64 q.f2] (fun _ => True) (fun _ => False) rfl ?aX (xeZ _ _ _ q) (fun _ hk => hk.elim) (fun _ _ => trivial) ?aR ?aB ?aS ?aL ?_; (case aX => show Value.slice (some ⟨_, 0, none⟩) 1 1 = _; simp); (case aR => repeat (first | exact HO.out | apply Kd.xbJ | apply Kd.xbK | apply Kd.R_drew)); (case aB => repeat (first | exact HBW.out | apply xaC | apply xaJ | apply xaM)); (case aS => exact xbG (by repeat (first | exact HBW.out | apply xaC | apply xaJ | apply xaM))); (case aL => have := HL.out; have := HAL.out; omega); intro v1 w6 ho hb hg hat; replace HO := Aside0.mk ho; replace HBW := Aside0.mk hb; clear ho hb hg hat))
    go_roundg (gk - 1)
    case measure => omega
    case rel => exact ⟨i + 1, acc ++ [q], by omega, by omega, by go_num, ⟨by rw [List.length_append, HAL.out]; rfl⟩, HPB, HO, HBW⟩
   ·
    have t0 : (ep != 0) = true := bne_iff_ne.mpr he
    have hpb := HPA.out
    rw [if_neg he] at hpb
    injection hpb with e1 e2
    subst e1;subst e2;clear HPA he
    go_wp2_with (first | (go_at_call 119; (with_reducible refine (HP.out _).mono ?_); rintro e w5 ⟨rfl, hb⟩; replace HBW := Aside0.mk (xaV HBW.out hb); replace HO := Aside0.mk (Kd.xbL HO.out hb); clear hb; clear cp0 cp1 cp2 cp3 cp4 zp0 zp1 zp2 zp3 zp4; clear cgl_0 zgl_0 cgl_1 zgl_1 cgl_2 zgl_2 cgl_3 zgl_3 cgl_4 zgl_4 cgl_5 zgl_5 cgl_6 zgl_6 cgl_7 zgl_7 cgl_8 zgl_8 cgl_9 zgl_9 cgl_10 zgl_10 cgl_11 zgl_11 cgl_12 zgl_12 cgl_13 zgl_13 cgl_14 zgl_14))
    go_ret2
    exact ⟨none, 0, rfl, Sl.nil _ _ _ _ _, HB.out.trans (Below.mono (by repeat (first | exact HBW.out | apply xaC | apply xaJ | apply xaM)) HB.out.size)⟩
  ·
   have hpb := HPA.out
   rw [List.drop_of_length_le (by omega), payAll] at hpb
   injection hpb with e1 e2
   subst e1;subst e2;clear HPA
   go_wp2_with fail
   go_ret2
   obtain ⟨A1, c1, rfl, hs1⟩ := Sl.of_R HO.out
   exact ⟨A1, c1, rfl, hs1.low HB.out.size, HB.out.trans (HBW.out.mono HB.out.size)⟩
end Go.Proofs.YtkabcgmegljebaaGreatDoor.H
