/- Contracts and facts of functions of the program, joined in one text. -/
import Derived.Test.YtkabcgmegljebaaGreatDoorDGA
import Derived.Test.YtkabcgmegljebaaGreatDoorDGH
set_option maxHeartbeats 8000000
set_option maxRecDepth 100000
set_option linter.unusedVariables false
set_option linter.unusedSimpArgs false
namespace Go.Proofs.YtkabcgmegljebaaGreatDoor.Q
open Go.RowKit Go.Proofs.YtkabcgmegljebaaGreatDoorW.PrintWords Go.Proofs.YtkabcgmegljebaaGreatDoorW.PrintLast Go.Proofs.YtkabcgmegljebaaGreatDoorW.PrintMore
attribute [local go_sem] xcP xcM xcY xcX xcF xcE xcN xcL
mutual
def xaD.j0 : Nat → Bool → Int → Int → Int → Int → Int → Int → Int → Int → Int → List (S214) → Option (List Int × Int)
  | 0, _, _, _, _, _, _, _, _, _, _, _ => none
  | k + 1, x5, x914000, x914001, x914002, x914003, x914004, x914005, x914006, x914007, x914008, x914009 => if x5 = true then (xaD.j1 k x5 x914001 x914000 (-1) x914000 x914001 x914002 x914003 x914004 x914005 x914006 x914007 x914008 x914009) else (xaD.j1 k x5 x914000 x914001 1 x914000 x914001 x914002 x914003 x914004 x914005 x914006 x914007 x914008 x914009)
def xaD.j1 : Nat → Bool → Int → Int → Int → Int → Int → Int → Int → Int → Int → Int → Int → Int → List (S214) → Option (List Int × Int)
  | 0, _, _, _, _, _, _, _, _, _, _, _, _, _, _ => none
  | k + 1, x5, x6, x7, x8, x914000, x914001, x914002, x914003, x914004, x914005, x914006, x914007, x914008, x914009 => xaD.l0 k x5 x6 x7 x8 ([] : List Int) false 0 x914000 x914001 x914002 x914003 x914004 x914005 x914006 x914007 x914008 x914009
def xaD.j4 : Nat → Bool → List Int → Bool → Int → Int → Int → Int → Int → Int → Int → Int → Int → List (S214) → Option (List Int × Int)
  | 0, _, _, _, _, _, _, _, _, _, _, _, _, _ => none
  | k + 1, x5, x9, x10, x914000, x914001, x914002, x914003, x914004, x914005, x914006, x914007, x914008, x914009 => if x914004 = 2 then (xaD.j5 k x5 x9 x10 true x914000 x914001 x914002 x914003 x914004 x914005 x914006 x914007 x914008 x914009) else (xaD.j5 k x5 x9 x10 (x914004 == 4) x914000 x914001 x914002 x914003 x914004 x914005 x914006 x914007 x914008 x914009)
def xaD.j5 : Nat → Bool → List Int → Bool → Bool → Int → Int → Int → Int → Int → Int → Int → Int → Int → List (S214) → Option (List Int × Int)
  | 0, _, _, _, _, _, _, _, _, _, _, _, _, _, _ => none
  | k + 1, x5, x9, x10, x14, x914000, x914001, x914002, x914003, x914004, x914005, x914006, x914007, x914008, x914009 => if x14 = true then (if x10 = true then (xaD.j6 k x5 x9 false x914000 x914001 x914002 x914003 x914004 x914005 x914006 x914007 x914008 x914009) else (xaD.j6 k x5 x9 (decide ((x9.length : Int) > 0)) x914000 x914001 x914002 x914003 x914004 x914005 x914006 x914007 x914008 x914009)) else (xaD.j6 k x5 x9 false x914000 x914001 x914002 x914003 x914004 x914005 x914006 x914007 x914008 x914009)
def xaD.j6 : Nat → Bool → List Int → Bool → Int → Int → Int → Int → Int → Int → Int → Int → Int → List (S214) → Option (List Int × Int)
  | 0, _, _, _, _, _, _, _, _, _, _, _, _, _ => none
  | k + 1, x5, x9, x101, x914000, x914001, x914002, x914003, x914004, x914005, x914006, x914007, x914008, x914009 => if x101 = true then (if 0 ≤ (wrap64 ((x9.length : Int) - 1)) then (if (wrap64 ((x9.length : Int) - 1)) ≤ (x9.length : Int) then (xaD.j7 k x5 (x9.take ((wrap64 ((x9.length : Int) - 1)) : Int).toNat) x914000 x914001 x914002 x914003 x914004 x914005 x914006 x914007 x914008 x914009) else (none)) else (none)) else (xaD.j7 k x5 x9 x914000 x914001 x914002 x914003 x914004 x914005 x914006 x914007 x914008 x914009)
def xaD.j7 : Nat → Bool → List Int → Int → Int → Int → Int → Int → Int → Int → Int → Int → List (S214) → Option (List Int × Int)
  | 0, _, _, _, _, _, _, _, _, _, _, _, _ => none
  | k + 1, x5, x9, x914000, x914001, x914002, x914003, x914004, x914005, x914006, x914007, x914008, x914009 => if 0 ≤ (wrap64 ((x9.length : Int) + 2)) then (if (wrap64 ((x9.length : Int) + 2) : Int).toNat ≤ 35184372088832 then ((some (List.replicate 0 0 : List Int)).bind fun y923 => (if y923.length < 17592186044416 then (xaD.l1 k x5 x9 (y923 ++ [x914000]) (x9.length : Int) 0 x914000 x914001 x914002 x914003 x914004 x914005 x914006 x914007 x914008 x914009) else (none))) else (none)) else (none)
def xaD.l1 : Nat → Bool → List Int → List Int → Int → Int → Int → Int → Int → Int → Int → Int → Int → Int → Int → List (S214) → Option (List Int × Int)
  | 0, _, _, _, _, _, _, _, _, _, _, _, _, _, _, _ => none
  | k + 1, x5, x9, x15, x117, x118, x914000, x914001, x914002, x914003, x914004, x914005, x914006, x914007, x914008, x914009 => if x118 < x117 then (if x5 = true then (if 0 ≤ (wrap64 ((wrap64 ((x9.length : Int) - 1)) - x118)) then (if (wrap64 ((wrap64 ((x9.length : Int) - 1)) - x118)) < (x9.length : Int) then (if x15.length < 17592186044416 then (xaD.l1 k x5 x9 (x15 ++ [rd x9 (wrap64 ((wrap64 ((x9.length : Int) - 1)) - x118))]) x117 (wrap64 (x118 + 1)) x914000 x914001 x914002 x914003 x914004 x914005 x914006 x914007 x914008 x914009) else (none)) else (none)) else (none)) else (if 0 ≤ x118 then (if x118 < (x9.length : Int) then (if x15.length < 17592186044416 then (xaD.l1 k x5 x9 (x15 ++ [rd x9 x118]) x117 (wrap64 (x118 + 1)) x914000 x914001 x914002 x914003 x914004 x914005 x914006 x914007 x914008 x914009) else (none)) else (none)) else (none))) else (if x15.length < 17592186044416 then (some ((x15 ++ [x914001]), 0)) else (none))
def xaD.l0 : Nat → Bool → Int → Int → Int → List Int → Bool → Int → Int → Int → Int → Int → Int → Int → Int → Int → Int → List (S214) → Option (List Int × Int)
  | 0, _, _, _, _, _, _, _, _, _, _, _, _, _, _, _, _, _ => none
  | k + 1, x5, x6, x7, x8, x9, x10, x39, x914000, x914001, x914002, x914003, x914004, x914005, x914006, x914007, x914008, x914009 => if x39 < 1201 then ((xbE.f k x914000 x914001 x914002 x914003 x914004 x914005 x914006 x914007 x914008 x914009 x6 (wrap64 (x8 * (wrap64 (x39 + 1))))).bind fun bt915 => (if bt915.2 = true then (if bt915.1 = x7 then (xaD.j4 k x5 x9 true x914000 x914001 x914002 x914003 x914004 x914005 x914006 x914007 x914008 x914009) else (if x5 = true then (if bt915.1 < x7 then (xaD.j3 k x5 x6 x7 x8 x9 x10 x39 bt915.1 x39 true x914000 x914001 x914002 x914003 x914004 x914005 x914006 x914007 x914008 x914009) else (xaD.j3 k x5 x6 x7 x8 x9 x10 x39 bt915.1 x39 false x914000 x914001 x914002 x914003 x914004 x914005 x914006 x914007 x914008 x914009)) else (xaD.j3 k x5 x6 x7 x8 x9 x10 x39 bt915.1 x39 (decide (bt915.1 > x7)) x914000 x914001 x914002 x914003 x914004 x914005 x914006 x914007 x914008 x914009))) else (xaD.j4 k x5 x9 x10 x914000 x914001 x914002 x914003 x914004 x914005 x914006 x914007 x914008 x914009))) else (xaD.j4 k x5 x9 x10 x914000 x914001 x914002 x914003 x914004 x914005 x914006 x914007 x914008 x914009)
def xaD.j3 : Nat → Bool → Int → Int → Int → List Int → Bool → Int → Int → Int → Bool → Int → Int → Int → Int → Int → Int → Int → Int → Int → List (S214) → Option (List Int × Int)
  | 0, _, _, _, _, _, _, _, _, _, _, _, _, _, _, _, _, _, _, _, _ => none
  | k + 1, x5, x6, x7, x8, x9, x10, x11, x12, x39, x59, x914000, x914001, x914002, x914003, x914004, x914005, x914006, x914007, x914008, x914009 => if x59 = true then (xaD.j4 k x5 x9 x10 x914000 x914001 x914002 x914003 x914004 x914005 x914006 x914007 x914008 x914009) else (if (wrap64 (x11 + 2)) > 1200 then (some (([] : List Int), 81)) else (if x9.length < 17592186044416 then (xaD.l0 k x5 x6 x7 x8 (x9 ++ [x12]) x10 (wrap64 (x39 + 1)) x914000 x914001 x914002 x914003 x914004 x914005 x914006 x914007 x914008 x914009) else (none)))
end
def xaD.f (k : Nat) (a0_0 a0_1 a0_2 a0_3 a0_4 a0_5 a0_6 a0_7 a0_8 : Int) (l0_9 : List (S214)) : Option (List Int × Int) := (xaP.f k a0_0 a0_1 a0_2 a0_3 a0_4 a0_5 a0_6 a0_7 a0_8 l0_9).bind fun t914 => (if t914 = 0 then (if a0_4 = 1 then (xaD.j0 k true a0_0 a0_1 a0_2 a0_3 a0_4 a0_5 a0_6 a0_7 a0_8 l0_9) else (xaD.j0 k (a0_4 == 2) a0_0 a0_1 a0_2 a0_3 a0_4 a0_5 a0_6 a0_7 a0_8 l0_9)) else (some (([] : List Int), t914)))
theorem xaD.calls (k : Nat) (a0_0 a0_1 a0_2 a0_3 a0_4 a0_5 a0_6 a0_7 a0_8 : Int) (A0_9 : Option Addr) (c0_9 : Nat) (l0_9 : List (S214)) (r1 : List Int) (r2 : Int) (w : World) (hr0_9 : Kd.C k214 w A0_9 l0_9.length l0_9) (hc0_9 : l0_9.length ≤ c0_9) (h : xaD.f k a0_0 a0_1 a0_2 a0_3 a0_4 a0_5 a0_6 a0_7 a0_8 l0_9 = some (r1, r2)) :
  Calls Tryz.prog 162 #[.agg #[.int .i64 a0_0, .int .i64 a0_1, .int .i64 a0_2, .int .i64 a0_3, .int .i64 a0_4, .int .i64 a0_5, .int .i64 a0_6, .int .i64 a0_7, .int .i64 a0_8, .slice A0_9 l0_9.length c0_9]] w fun e w' => ∃ v0_ : Value, e = .returned (.tuple #[v0_, .int .i64 r2]) ∧ Kd.R (Kd.int .i64) 3 w' w.heap.size (fun _ => True) v0_ r1 ∧ Below w.heap.size w w' := by
 have hu117 := Tryz.underlying117;have HR0_9 := Aside0.mk hr0_9;have HC0_9 := Aside0.mk hc0_9;clear hr0_9 hc0_9
 have HB := Aside0.mk (Below.refl w.heap.size w)
 have H : ((xaP.f k a0_0 a0_1 a0_2 a0_3 a0_4 a0_5 a0_6 a0_7 a0_8 l0_9).bind fun t914 => (if t914 = 0 then (if a0_4 = 1 then (xaD.j0 k true a0_0 a0_1 a0_2 a0_3 a0_4 a0_5 a0_6 a0_7 a0_8 l0_9) else (xaD.j0 k (a0_4 == 2) a0_0 a0_1 a0_2 a0_3 a0_4 a0_5 a0_6 a0_7 a0_8 l0_9)) else (some (([] : List Int), t914)))) = some (r1, r2) := h
 clear h;replace H := Option.bind_eq_some_iff.mp H
 obtain ⟨t914, A20, H⟩ := H
 replace H : (if t914 = 0 then (if a0_4 = 1 then (xaD.j0 k true a0_0 a0_1 a0_2 a0_3 a0_4 a0_5 a0_6 a0_7 a0_8 l0_9) else (xaD.j0 k (a0_4 == 2) a0_0 a0_1 a0_2 a0_3 a0_4 a0_5 a0_6 a0_7 a0_8 l0_9)) else (some (([] : List Int), t914))) = some (r1, r2) := H
 have A2 := Aside0.mk A20;clear A20
 by_cases c3 : t914 = 0
 ·
  rw [if_pos c3] at H
  have c3b0 : (t914 == 0) = true := beq_iff_eq.mpr c3
  have c3b1 : (t914 != 0) = false := bne_eq_false_iff_eq.mpr c3
  clear c3;have HC4 := Aside0.mk H;clear H
  go_enter Tryz.func162, Tryz.ntmps162
  go_wp2_with (first | ((with_reducible refine xaU (N := 1) rfl ?_); (try (refine xbQ (by rfl) ?_; dsimp only)); refine xaT ?hg (N := 1) ?hd (cs := #[.int .i64 a0_0, .int .i64 a0_1, .int .i64 a0_2, .int .i64 a0_3, .int .i64 a0_4, .int .i64 a0_5, .int .i64 a0_6, .int .i64 a0_7, .int .i64 a0_8, .slice A0_9 l0_9.length c0_9]) (t := 117) ?hr ?_; (case hd => rfl); (case hg => rfl); (case hr => first | (go_simp; done) | (go_simp; rfl)); intro gb913 hg w5 hbox hb; have BK913 := Aside0.mk (hbox); have GW913 := bG hg; have GE913 := bG hg; replace HB := bS hb; clear hb hbox hg; obtain ⟨hcz6_0,hcz6_1,hcz6_2,hcz6_3,hcz6_4,hcz6_5,hcz6_6,hcz6_7,hcz6_8,hcz6_9,hfz6_0,hfz6_1,hfz6_2,hfz6_3,hfz6_4,hfz6_5,hfz6_6,hfz6_7,hfz6_8,hfz6_9⟩ := blk10 BK913) | (go_at_call 172; (with_reducible refine (xaP.calls k a0_0 a0_1 a0_2 a0_3 a0_4 a0_5 a0_6 a0_7 a0_8 _ _ l0_9 t914 _ ?side1 ?side2 A2.out).mono ?_); (case side1 => exact sC HR0_9); (case side2 => exact HC0_9.out); rintro e w7 ⟨rfl, hb⟩; replace BK913 := bK BK913 hb; replace HB := bS hb; (try clear hb); (try clear hb2); (try clear hk); (try clear hi)))
  go_step3
  go_upto_region 4 with (first | ((with_reducible refine xaU (N := 1) rfl ?_); (try (refine xbQ (by rfl) ?_; dsimp only)); refine xaT ?hg (N := 1) ?hd (cs := #[.int .i64 a0_0, .int .i64 a0_1, .int .i64 a0_2, .int .i64 a0_3, .int .i64 a0_4, .int .i64 a0_5, .int .i64 a0_6, .int .i64 a0_7, .int .i64 a0_8, .slice A0_9 l0_9.length c0_9]) (t := 117) ?hr ?_; (case hd => rfl); (case hg => rfl); (case hr => first | (go_simp; done) | (go_simp; rfl)); intro gb913 hg w5 hbox hb; have BK913 := Aside0.mk (hbox); have GW913 := bG hg; have GE913 := bG hg; replace HB := bS hb; clear hb hbox hg; obtain ⟨hcz6_0,hcz6_1,hcz6_2,hcz6_3,hcz6_4,hcz6_5,hcz6_6,hcz6_7,hcz6_8,hcz6_9,hfz6_0,hfz6_1,hfz6_2,hfz6_3,hfz6_4,hfz6_5,hfz6_6,hfz6_7,hfz6_8,hfz6_9⟩ := blk10 BK913) | (go_at_call 172; (with_reducible refine (xaP.calls k a0_0 a0_1 a0_2 a0_3 a0_4 a0_5 a0_6 a0_7 a0_8 _ _ l0_9 t914 _ ?side1 ?side2 A2.out).mono ?_); (case side1 => exact sC HR0_9); (case side2 => exact HC0_9.out); rintro e w7 ⟨rfl, hb⟩; replace BK913 := bK BK913 hb; replace HB := bS hb; (try clear hb); (try clear hb2); (try clear hk); (try clear hi)))
  repeat (go_quiet (first | ((with_reducible refine xaU (N := 1) rfl ?_); (try (refine xbQ (by rfl) ?_; dsimp only)); refine xaT ?hg (N := 1) ?hd (cs := #[.int .i64 a0_0, .int .i64 a0_1, .int .i64 a0_2, .int .i64 a0_3, .int .i64 a0_4, .int .i64 a0_5, .int .i64 a0_6, .int .i64 a0_7, .int .i64 a0_8, .slice A0_9 l0_9.length c0_9]) (t := 117) ?hr ?_; (case hd => rfl); (case hg => rfl); (case hr => first | (go_simp; done) | (go_simp; rfl)); intro gb913 hg w5 hbox hb; have BK913 := Aside0.mk (hbox); have GW913 := bG hg; have GE913 := bG hg; replace HB := bS hb; clear hb hbox hg; obtain ⟨hcz6_0,hcz6_1,hcz6_2,hcz6_3,hcz6_4,hcz6_5,hcz6_6,hcz6_7,hcz6_8,hcz6_9,hfz6_0,hfz6_1,hfz6_2,hfz6_3,hfz6_4,hfz6_5,hfz6_6,hfz6_7,hfz6_8,hfz6_9⟩ := blk10 BK913) | (go_at_call 172; (with_reducible refine (xaP.calls k a0_0 a0_1 a0_2 a0_3 a0_4 a0_5 a0_6 a0_7 a0_8 _ _ l0_9 t914 _ ?side1 ?side2 A2.out).mono ?_); (case side1 => exact sC HR0_9); (case side2 => exact HC0_9.out); rintro e w7 ⟨rfl, hb⟩; replace BK913 := bK BK913 hb; replace HB := bS hb; (try clear hb); (try clear hb2); (try clear hk); (try clear hi))); go_upto_region 4 with (first | ((with_reducible refine xaU (N := 1) rfl ?_); (try (refine xbQ (by rfl) ?_; dsimp only)); refine xaT ?hg (N := 1) ?hd (cs := #[.int .i64 a0_0, .int .i64 a0_1, .int .i64 a0_2, .int .i64 a0_3, .int .i64 a0_4, .int .i64 a0_5, .int .i64 a0_6, .int .i64 a0_7, .int .i64 a0_8, .slice A0_9 l0_9.length c0_9]) (t := 117) ?hr ?_; (case hd => rfl); (case hg => rfl); (case hr => first | (go_simp; done) | (go_simp; rfl)); intro gb913 hg w5 hbox hb; have BK913 := Aside0.mk (hbox); have GW913 := bG hg; have GE913 := bG hg; replace HB := bS hb; clear hb hbox hg; obtain ⟨hcz6_0,hcz6_1,hcz6_2,hcz6_3,hcz6_4,hcz6_5,hcz6_6,hcz6_7,hcz6_8,hcz6_9,hfz6_0,hfz6_1,hfz6_2,hfz6_3,hfz6_4,hfz6_5,hfz6_6,hfz6_7,hfz6_8,hfz6_9⟩ := blk10 BK913) | (go_at_call 172; (with_reducible refine (xaP.calls k a0_0 a0_1 a0_2 a0_3 a0_4 a0_5 a0_6 a0_7 a0_8 _ _ l0_9 t914 _ ?side1 ?side2 A2.out).mono ?_); (case side1 => exact sC HR0_9); (case side2 => exact HC0_9.out); rintro e w7 ⟨rfl, hb⟩; replace BK913 := bK BK913 hb; replace HB := bS hb; (try clear hb); (try clear hb2); (try clear hk); (try clear hi))))
  (try simp only [Act.put, List.setIfInBounds_toArray, List.set_cons_zero, List.set_cons_succ])
  go_cut [5] (fun v5 wc => ∃ (kq : Nat) (x5_3 : Bool), v5 = .bool x5_3 ∧ Aside0 (xaD.j0 kq x5_3 a0_0 a0_1 a0_2 a0_3 a0_4 a0_5 a0_6 a0_7 a0_8 l0_9 = some (r1, r2)) ∧ Aside0 (kq ≤ k) ∧ Aside0 (wc.heap[gb913]? = some (.cells #[.int .i64 a0_0, .int .i64 a0_1, .int .i64 a0_2, .int .i64 a0_3, .int .i64 a0_4, .int .i64 a0_5, .int .i64 a0_6, .int .i64 a0_7, .int .i64 a0_8, (.slice A0_9 l0_9.length c0_9)] 117 (0, 0))) ∧ Aside0 (Below w.heap.size w wc))
  case first =>
   have H := HC4.out;clear HC4
   by_cases c8 : a0_4 = 1
   ·
    rw [if_pos c8] at H
    have c8b0 : (a0_4 == 1) = true := beq_iff_eq.mpr c8
    have c8b1 : (a0_4 != 1) = false := bne_eq_false_iff_eq.mpr c8
    clear c8
    (first | rw [c8b0] | (simp only [i64_w, i32_w]; rw [c8b0]) | skip)
    have H' := Aside0.mk H;clear H
    obtain ⟨_,_,_,_,_,_,_,_,_,_,_,_,_,_,_,_,_,_,_,_⟩ := blk10 BK913
    go_wp2
    repeat (go_quiet (fail); try go_wp2)
    go_meet
    case rel => exact ⟨_, (true), eS, H', ⟨eN⟩, ⟨(bk BK913)⟩, ⟨bB⟩⟩
   ·
    rw [if_neg c8] at H
    have c8b0 : (a0_4 == 1) = false := beq_eq_false_iff_ne.mpr c8
    have c8b1 : (a0_4 != 1) = true := bne_iff_ne.mpr c8
    (first | rw [c8b0] | (simp only [i64_w, i32_w]; rw [c8b0]) | skip)
    have H' := Aside0.mk H;clear H
    obtain ⟨_,_,_,_,_,_,_,_,_,_,_,_,_,_,_,_,_,_,_,_⟩ := blk10 BK913
    go_wp2
    repeat (go_quiet (fail); try go_wp2)
    go_meet
    case rel => exact ⟨_, ((a0_4 == 2)), eS, H', ⟨eN⟩, ⟨(bk BK913)⟩, ⟨bB⟩⟩
  case rest =>
   clear HC4
   obtain ⟨kq, x5_3, rfl, HA, HJ3, BK913, HB⟩ := hcut
   cases kq with
   | zero => exact absurd HA.out (by simp [xaD.j0])
   | succ kj3 =>
    have H := HA.out;clear HA
    simp only [xaD.j0] at H
    have HC11 := Aside0.mk H;clear H
    obtain ⟨_,_,_,_,_,_,_,_,_,_,_,_,_,_,_,_,_,_,_,_⟩ := blk10 BK913
    go_upto_if 34 with (fail)
    repeat (go_quiet (fail); go_upto_if 34 with (fail))
    go_cut [6, 7, 8] (fun v6 v7 v8 wc => ∃ (kq : Nat) (x6_10 : Int) (x7_10 : Int) (x8_10 : Int), v6 = .int .i64 x6_10 ∧ v7 = .int .i64 x7_10 ∧ v8 = .int .i64 x8_10 ∧ Aside0 (xaD.j1 kq x5_3 x6_10 x7_10 x8_10 a0_0 a0_1 a0_2 a0_3 a0_4 a0_5 a0_6 a0_7 a0_8 l0_9 = some (r1, r2)) ∧ Aside0 (kq ≤ kj3) ∧ Aside0 (wc.heap[gb913]? = some (.cells #[.int .i64 a0_0, .int .i64 a0_1, .int .i64 a0_2, .int .i64 a0_3, .int .i64 a0_4, .int .i64 a0_5, .int .i64 a0_6, .int .i64 a0_7, .int .i64 a0_8, (.slice A0_9 l0_9.length c0_9)] 117 (0, 0))) ∧ Aside0 (Below w.heap.size w wc))
    case first =>
     have H := HC11.out;clear HC11
     by_cases c13 : x5_3 = true
     ·
      subst c13
      have H1 : (xaD.j1 kj3 true a0_1 a0_0 (-1) a0_0 a0_1 a0_2 a0_3 a0_4 a0_5 a0_6 a0_7 a0_8 l0_9) = some (r1, r2) := by rw [if_pos rfl] at H; exact H
      clear H;have H := H1;clear H1;have H' := Aside0.mk H;clear H
      obtain ⟨_,_,_,_,_,_,_,_,_,_,_,_,_,_,_,_,_,_,_,_⟩ := blk10 BK913
      go_wp2
      repeat (go_quiet (fail); try go_wp2)
      go_meet
      case rel => exact ⟨_, (a0_1), (a0_0), ((-1)), eS, eS, eS, H', ⟨by have := HJ3.out; first | omega | exact Nat.le_refl _⟩, ⟨(bk BK913)⟩, ⟨bB⟩⟩
     ·
      replace c13 := Bool.eq_false_iff.mpr c13;subst c13
      have H1 : (xaD.j1 kj3 false a0_0 a0_1 1 a0_0 a0_1 a0_2 a0_3 a0_4 a0_5 a0_6 a0_7 a0_8 l0_9) = some (r1, r2) := by rw [if_neg (show ¬ (false = true) by decide)] at H; exact H
      clear H;have H := H1;clear H1;have H' := Aside0.mk H;clear H
      go_wp2
      repeat (go_quiet (fail); try go_wp2)
      go_meet
      case rel => exact ⟨_, (a0_0), (a0_1), (1), eS, eS, eS, H', ⟨by have := HJ3.out; first | omega | exact Nat.le_refl _⟩, ⟨(bk BK913)⟩, ⟨bB⟩⟩
    case rest =>
     clear HC11
     obtain ⟨kq, x6_10, x7_10, x8_10, rfl, rfl, rfl, HA, HJ10, BK913, HB⟩ := hcut
     cases kq with
     | zero => exact absurd HA.out (by simp [xaD.j1])
     | succ kj10 =>
      have H := HA.out;clear HA
      simp only [xaD.j1] at H
      have HC15 := Aside0.mk H;clear H
      (try go_upto_block 0 with (fail))
      go_step3
      go_upto_block 0 with (fail)
      repeat (go_quiet (fail); go_upto_block 0 with (fail))
      go_cut [9, 10] (fun v9 v10 wc => ∃ (kq : Nat) (x9_14 : List Int) (x10_14 : Bool), v10 = .bool x10_14 ∧ Aside0 (xaD.j4 kq x5_3 x9_14 x10_14 a0_0 a0_1 a0_2 a0_3 a0_4 a0_5 a0_6 a0_7 a0_8 l0_9 = some (r1, r2)) ∧ Aside0 (kq ≤ kj10) ∧ Aside0 (Kd.R (Kd.int .i64) 3 wc w.heap.size (fun _ => True) v9 x9_14) ∧ Aside0 (wc.heap[gb913]? = some (.cells #[.int .i64 a0_0, .int .i64 a0_1, .int .i64 a0_2, .int .i64 a0_3, .int .i64 a0_4, .int .i64 a0_5, .int .i64 a0_6, .int .i64 a0_7, .int .i64 a0_8, (.slice A0_9 l0_9.length c0_9)] 117 (0, 0))) ∧ Aside0 (Below w.heap.size w wc))
      case first =>
       have H := HC15.out;clear HC15;have H' := Aside0.mk H;clear H
       go_wp2
       repeat (go_quiet (fail); try go_wp2)
       go_loopg [9, 10, 39] kj10 (fun kq v9 v10 v39 w' => ∃ (x9_3 : List Int) (x10_3 : Bool) (x39_3 : Int), v10 = .bool x10_3 ∧ v39 = .int .i64 x39_3 ∧ Aside0 (xaD.l0 kq x5_3 x6_10 x7_10 x8_10 x9_3 x10_3 x39_3 a0_0 a0_1 a0_2 a0_3 a0_4 a0_5 a0_6 a0_7 a0_8 l0_9 = some (r1, r2)) ∧ Aside0 (kq ≤ kj10) ∧ Aside0 (Kd.R (Kd.int .i64) 3 w' w.heap.size (fun _ => True) v9 x9_3) ∧ Aside0 (w'.heap[gb913]? = some (.cells #[.int .i64 a0_0, .int .i64 a0_1, .int .i64 a0_2, .int .i64 a0_3, .int .i64 a0_4, .int .i64 a0_5, .int .i64 a0_6, .int .i64 a0_7, .int .i64 a0_8, (.slice A0_9 l0_9.length c0_9)] 117 (0, 0))) ∧ Aside0 (Below w.heap.size w w'))
       case atStart => exact ⟨(([] : List Int)), (false), (0), eS, eS, H', ⟨Nat.le_refl _⟩, ⟨by first | exact Kd.R_nil _ _ _ _ _ | exact Kd.N_nil _ _ _ _ _ | exact Kd.V_nil _ _ _ _ _ | exact Kd.Q_nil _ _ _ _ _ | exact Kd.S_nil _ _ _ _ _⟩, ⟨(bk BK913)⟩, ⟨bB⟩⟩
       case round =>
        clear H'
        obtain ⟨x9_3, x10_3, x39_3, rfl, rfl, HA, HK3, HO_9, BK913, HB⟩ := hrel
        cases gk with
        | zero => exact absurd HA.out (by simp [xaD.l0])
        | succ k3 =>
         have H := HA.out;clear HA
         simp only [xaD.l0] at H
         by_cases c16 : x39_3 < 1201
         ·
          rw [if_pos c16] at H
          have c16b0 : decide (x39_3 < 1201) = true := decide_eq_true c16
          clear c16
          (first | rw [c16b0] | (simp only [i64_w, i32_w]; rw [c16b0]) | skip)
          replace H := Option.bind_eq_some_iff.mp H
          obtain ⟨⟨t915, t916⟩, A170, H⟩ := H
          replace H : (if t916 = true then (if t915 = x7_10 then (xaD.j4 k3 x5_3 x9_3 true a0_0 a0_1 a0_2 a0_3 a0_4 a0_5 a0_6 a0_7 a0_8 l0_9) else (if x5_3 = true then (if t915 < x7_10 then (xaD.j3 k3 x5_3 x6_10 x7_10 x8_10 x9_3 x10_3 x39_3 t915 x39_3 true a0_0 a0_1 a0_2 a0_3 a0_4 a0_5 a0_6 a0_7 a0_8 l0_9) else (xaD.j3 k3 x5_3 x6_10 x7_10 x8_10 x9_3 x10_3 x39_3 t915 x39_3 false a0_0 a0_1 a0_2 a0_3 a0_4 a0_5 a0_6 a0_7 a0_8 l0_9)) else (xaD.j3 k3 x5_3 x6_10 x7_10 x8_10 x9_3 x10_3 x39_3 t915 x39_3 (decide (t915 > x7_10)) a0_0 a0_1 a0_2 a0_3 a0_4 a0_5 a0_6 a0_7 a0_8 l0_9))) else (xaD.j4 k3 x5_3 x9_3 x10_3 a0_0 a0_1 a0_2 a0_3 a0_4 a0_5 a0_6 a0_7 a0_8 l0_9)) = some (r1, r2) := H
          have A17 := Aside0.mk A170;clear A170
          by_cases c18 : t916 = true
          ·
           subst c18
           have H1 : (if t915 = x7_10 then (xaD.j4 k3 x5_3 x9_3 true a0_0 a0_1 a0_2 a0_3 a0_4 a0_5 a0_6 a0_7 a0_8 l0_9) else (if x5_3 = true then (if t915 < x7_10 then (xaD.j3 k3 x5_3 x6_10 x7_10 x8_10 x9_3 x10_3 x39_3 t915 x39_3 true a0_0 a0_1 a0_2 a0_3 a0_4 a0_5 a0_6 a0_7 a0_8 l0_9) else (xaD.j3 k3 x5_3 x6_10 x7_10 x8_10 x9_3 x10_3 x39_3 t915 x39_3 false a0_0 a0_1 a0_2 a0_3 a0_4 a0_5 a0_6 a0_7 a0_8 l0_9)) else (xaD.j3 k3 x5_3 x6_10 x7_10 x8_10 x9_3 x10_3 x39_3 t915 x39_3 (decide (t915 > x7_10)) a0_0 a0_1 a0_2 a0_3 a0_4 a0_5 a0_6 a0_7 a0_8 l0_9))) = some (r1, r2) := by rw [if_pos rfl] at H; exact H
           clear H;have H := H1;clear H1
           by_cases c19 : t915 = x7_10
           ·
            rw [if_pos c19] at H
            have c19b0 : (t915 == x7_10) = true := beq_iff_eq.mpr c19
            have c19b1 : (t915 != x7_10) = false := bne_eq_false_iff_eq.mpr c19
            clear c19;have H' := Aside0.mk H;clear H
            obtain ⟨_,_,_,_,_,_,_,_,_,_,_,_,_,_,_,_,_,_,_,_⟩ := blk10 BK913
            go_wp2_with (first | (go_at_call 173; (with_reducible refine (xbE.calls k3 a0_0 a0_1 a0_2 a0_3 a0_4 a0_5 a0_6 a0_7 a0_8 _ _ l0_9 x6_10 (wrap64 (x8_10 * (wrap64 (x39_3 + 1)))) t915 true _ ?side1 ?side2 A17.out).mono ?_); (case side1 => exact sC HR0_9); (case side2 => exact HC0_9.out); rintro e w21 ⟨rfl, hb⟩; replace HO_9 := Aside0.mk (Kd.xbL (bR HO_9) hb); replace BK913 := bK BK913 hb; replace HB := bS hb; (try clear hb); (try clear hb2); (try clear hk); (try clear hi)))
            repeat (go_quiet (first | (go_at_call 173; (with_reducible refine (xbE.calls k3 a0_0 a0_1 a0_2 a0_3 a0_4 a0_5 a0_6 a0_7 a0_8 _ _ l0_9 x6_10 (wrap64 (x8_10 * (wrap64 (x39_3 + 1)))) t915 true _ ?side1 ?side2 A17.out).mono ?_); (case side1 => exact sC HR0_9); (case side2 => exact HC0_9.out); rintro e w21 ⟨rfl, hb⟩; replace HO_9 := Aside0.mk (Kd.xbL (bR HO_9) hb); replace BK913 := bK BK913 hb; replace HB := bS hb; (try clear hb); (try clear hb2); (try clear hk); (try clear hi))); try go_wp2_with (first | (go_at_call 173; (with_reducible refine (xbE.calls k3 a0_0 a0_1 a0_2 a0_3 a0_4 a0_5 a0_6 a0_7 a0_8 _ _ l0_9 x6_10 (wrap64 (x8_10 * (wrap64 (x39_3 + 1)))) t915 true _ ?side1 ?side2 A17.out).mono ?_); (case side1 => exact sC HR0_9); (case side2 => exact HC0_9.out); rintro e w21 ⟨rfl, hb⟩; replace HO_9 := Aside0.mk (Kd.xbL (bR HO_9) hb); replace BK913 := bK BK913 hb; replace HB := bS hb; (try clear hb); (try clear hb2); (try clear hk); (try clear hi))))
            go_meet
            case rel => exact ⟨_, (x9_3), (true), eS, H', ⟨by have := HJ3.out; have := HJ10.out; have := HK3.out; first | omega | exact Nat.le_refl _⟩, ⟨(bR HO_9)⟩, ⟨(bk BK913)⟩, ⟨bB⟩⟩
           ·
            rw [if_neg c19] at H
            have c19b0 : (t915 == x7_10) = false := beq_eq_false_iff_ne.mpr c19
            have c19b1 : (t915 != x7_10) = true := bne_iff_ne.mpr c19
            have HC22 := Aside0.mk H;clear H
            obtain ⟨_,_,_,_,_,_,_,_,_,_,_,_,_,_,_,_,_,_,_,_⟩ := blk10 BK913
            go_upto_region 17 with (first | (go_at_call 173; (with_reducible refine (xbE.calls k3 a0_0 a0_1 a0_2 a0_3 a0_4 a0_5 a0_6 a0_7 a0_8 _ _ l0_9 x6_10 (wrap64 (x8_10 * (wrap64 (x39_3 + 1)))) t915 true _ ?side1 ?side2 A17.out).mono ?_); (case side1 => exact sC HR0_9); (case side2 => exact HC0_9.out); rintro e w24 ⟨rfl, hb⟩; replace HO_9 := Aside0.mk (Kd.xbL (bR HO_9) hb); replace BK913 := bK BK913 hb; replace HB := bS hb; (try clear hb); (try clear hb2); (try clear hk); (try clear hi)))
            repeat (go_quiet (first | (go_at_call 173; (with_reducible refine (xbE.calls k3 a0_0 a0_1 a0_2 a0_3 a0_4 a0_5 a0_6 a0_7 a0_8 _ _ l0_9 x6_10 (wrap64 (x8_10 * (wrap64 (x39_3 + 1)))) t915 true _ ?side1 ?side2 A17.out).mono ?_); (case side1 => exact sC HR0_9); (case side2 => exact HC0_9.out); rintro e w24 ⟨rfl, hb⟩; replace HO_9 := Aside0.mk (Kd.xbL (bR HO_9) hb); replace BK913 := bK BK913 hb; replace HB := bS hb; (try clear hb); (try clear hb2); (try clear hk); (try clear hi))); go_upto_region 17 with (first | (go_at_call 173; (with_reducible refine (xbE.calls k3 a0_0 a0_1 a0_2 a0_3 a0_4 a0_5 a0_6 a0_7 a0_8 _ _ l0_9 x6_10 (wrap64 (x8_10 * (wrap64 (x39_3 + 1)))) t915 true _ ?side1 ?side2 A17.out).mono ?_); (case side1 => exact sC HR0_9); (case side2 => exact HC0_9.out); rintro e w24 ⟨rfl, hb⟩; replace HO_9 := Aside0.mk (Kd.xbL (bR HO_9) hb); replace BK913 := bK BK913 hb; replace HB := bS hb; (try clear hb); (try clear hb2); (try clear hk); (try clear hi))))
            (try simp only [Act.put, List.setIfInBounds_toArray, List.set_cons_zero, List.set_cons_succ])
            go_cut [59] (fun v59 wc => ∃ (kq : Nat) (x59_21 : Bool), v59 = .bool x59_21 ∧ Aside0 (xaD.j3 kq x5_3 x6_10 x7_10 x8_10 x9_3 x10_3 x39_3 t915 x39_3 x59_21 a0_0 a0_1 a0_2 a0_3 a0_4 a0_5 a0_6 a0_7 a0_8 l0_9 = some (r1, r2)) ∧ Aside0 (kq ≤ k3) ∧ Aside0 (Kd.R (Kd.int .i64) 3 wc w.heap.size (fun _ => True) u9 x9_3) ∧ Aside0 (wc.heap[gb913]? = some (.cells #[.int .i64 a0_0, .int .i64 a0_1, .int .i64 a0_2, .int .i64 a0_3, .int .i64 a0_4, .int .i64 a0_5, .int .i64 a0_6, .int .i64 a0_7, .int .i64 a0_8, (.slice A0_9 l0_9.length c0_9)] 117 (0, 0))) ∧ Aside0 (Below w.heap.size w wc))
            case first =>
             have H := HC22.out;clear HC22
             by_cases c25 : x5_3 = true
             ·
              subst c25
              have H1 : (if t915 < x7_10 then (xaD.j3 k3 true x6_10 x7_10 x8_10 x9_3 x10_3 x39_3 t915 x39_3 true a0_0 a0_1 a0_2 a0_3 a0_4 a0_5 a0_6 a0_7 a0_8 l0_9) else (xaD.j3 k3 true x6_10 x7_10 x8_10 x9_3 x10_3 x39_3 t915 x39_3 false a0_0 a0_1 a0_2 a0_3 a0_4 a0_5 a0_6 a0_7 a0_8 l0_9)) = some (r1, r2) := by rw [if_pos rfl] at H; exact H
              clear H;have H := H1;clear H1
              by_cases c26 : t915 < x7_10
              ·
               rw [if_pos c26] at H
               have c26b0 : decide (t915 < x7_10) = true := decide_eq_true c26
               clear c26
               (first | rw [c26b0] | (simp only [i64_w, i32_w]; rw [c26b0]) | skip)
               have H' := Aside0.mk H;clear H
               go_wp2
               repeat (go_quiet (fail); try go_wp2)
               go_meet
               case rel => exact ⟨_, (true), eS, H', ⟨by have := HJ3.out; have := HJ10.out; have := HK3.out; first | omega | exact Nat.le_refl _⟩, ⟨(bR HO_9)⟩, ⟨(bk BK913)⟩, ⟨bB⟩⟩
              ·
               rw [if_neg c26] at H
               have c26b0 : decide (t915 < x7_10) = false := decide_eq_false c26
               clear c26
               (first | rw [c26b0] | (simp only [i64_w, i32_w]; rw [c26b0]) | skip)
               have H' := Aside0.mk H;clear H
               go_wp2
               repeat (go_quiet (fail); try go_wp2)
               go_meet
               case rel => exact ⟨_, (false), eS, H', ⟨by have := HJ3.out; have := HJ10.out; have := HK3.out; first | omega | exact Nat.le_refl _⟩, ⟨(bR HO_9)⟩, ⟨(bk BK913)⟩, ⟨bB⟩⟩
             ·
              replace c25 := Bool.eq_false_iff.mpr c25;subst c25
              have H1 : (xaD.j3 k3 false x6_10 x7_10 x8_10 x9_3 x10_3 x39_3 t915 x39_3 (decide (t915 > x7_10)) a0_0 a0_1 a0_2 a0_3 a0_4 a0_5 a0_6 a0_7 a0_8 l0_9) = some (r1, r2) := by rw [if_neg (show ¬ (false = true) by decide)] at H; exact H
              clear H;have H := H1;clear H1;have H' := Aside0.mk H;clear H
              go_wp2
              repeat (go_quiet (fail); try go_wp2)
              go_meet
              case rel => exact ⟨_, (decide (t915 > x7_10)), eS, H', ⟨by have := HJ3.out; have := HJ10.out; have := HK3.out; first | omega | exact Nat.le_refl _⟩, ⟨(bR HO_9)⟩, ⟨(bk BK913)⟩, ⟨bB⟩⟩
            case rest =>
             clear HC22
             obtain ⟨kq, x59_21, rfl, HA, HJ21, HO_9, BK913, HB⟩ := hcut
             cases kq with
             | zero => exact absurd HA.out (by simp [xaD.j3])
             | succ kj21 =>
              have H := HA.out;clear HA
              simp only [xaD.j3] at H
              by_cases c27 : x59_21 = true
              ·
               subst c27
               have H1 : (xaD.j4 kj21 x5_3 x9_3 x10_3 a0_0 a0_1 a0_2 a0_3 a0_4 a0_5 a0_6 a0_7 a0_8 l0_9) = some (r1, r2) := by rw [if_pos rfl] at H; exact H
               clear H;have H := H1;clear H1;have H' := Aside0.mk H;clear H
               go_wp2
               repeat (go_quiet (fail); try go_wp2)
               go_meet
               case rel => exact ⟨_, (x9_3), (x10_3), eS, H', ⟨by have := HJ3.out; have := HJ10.out; have := HK3.out; have := HJ21.out; first | omega | exact Nat.le_refl _⟩, ⟨(bR HO_9)⟩, ⟨(bk BK913)⟩, ⟨bB⟩⟩
              ·
               replace c27 := Bool.eq_false_iff.mpr c27;subst c27
               have H1 : (if (wrap64 (x39_3 + 2)) > 1200 then (some (([] : List Int), 81)) else (if x9_3.length < 17592186044416 then (xaD.l0 kj21 x5_3 x6_10 x7_10 x8_10 (x9_3 ++ [t915]) x10_3 (wrap64 (x39_3 + 1)) a0_0 a0_1 a0_2 a0_3 a0_4 a0_5 a0_6 a0_7 a0_8 l0_9) else (none))) = some (r1, r2) := by rw [if_neg (show ¬ (false = true) by decide)] at H; exact H
               clear H;have H := H1;clear H1
               by_cases c28 : (wrap64 (x39_3 + 2)) > 1200
               ·
                rw [if_pos c28] at H
                have c28b0 : decide (1200 < (wrap64 (x39_3 + 2))) = true := decide_eq_true c28
                clear c28
                simp only [Option.some.injEq, Prod.mk.injEq] at H
                obtain ⟨rfl, rfl⟩ := H
                go_wp2
                repeat (go_quiet (fail); try go_wp2)
                rw [Go.Exit.noGoto_ret]
                go_ret2
                exact ⟨_, eW, by first | exact Kd.R_nil _ _ _ _ _ | exact Kd.N_nil _ _ _ _ _ | exact Kd.V_nil _ _ _ _ _ | exact Kd.Q_nil _ _ _ _ _ | exact Kd.S_nil _ _ _ _ _, bB⟩
               ·
                rw [if_neg c28] at H
                have c28b0 : decide (1200 < (wrap64 (x39_3 + 2))) = false := decide_eq_false c28
                clear c28
                by_cases c29 : x9_3.length < 17592186044416
                ·
                 rw [if_pos c29] at H
                 have LMc29 := Aside0.mk c29;clear c29
                 obtain ⟨y917, hy917⟩ : ∃ y_ : List Int, y_ = (x9_3 ++ [t915]) := ⟨_, rfl⟩
                 replace H : (xaD.l0 kj21 x5_3 x6_10 x7_10 x8_10 y917 x10_3 (wrap64 (x39_3 + 1)) a0_0 a0_1 a0_2 a0_3 a0_4 a0_5 a0_6 a0_7 a0_8 l0_9) = some (r1, r2) := by first | (rw [hy917]; with_reducible exact H) | (have H2_ := (Option.bind_some _ _).symm.trans H; rw [hy917]; with_reducible exact H2_) | (have H2_ := (Option.bind_some _ _).symm.trans H; with_reducible exact H2_) | with_reducible exact H | (rw [hy917]; exact H) | exact H
                 have Ny917 := Aside0.mk hy917;clear hy917;have H' := Aside0.mk H;clear H
                 go_wp2_with (first | ((with_reducible refine xaR (b := .append) (xs := #[.tmp 79, .tmp 81]) rfl ?_); (try (refine xbQ (by rfl) ?_; dsimp only)); at_builtin; refine Kd.xbZ (Kd.int .i64) (w0 := w) w.heap.size rfl (.tmp 79) (.tmp 81) 49 3 (.int .i64 0) 8 rfl Tryz.underlying49 info3 rfl (by decide) (by omega) u9 x9_3 t915 [.int .i64 t915] (fun _ => True) (fun _ => False) rfl rfl ?aP (fun _ hk => hk.elim) ?aF ?aO ?aB ?aS ?aL ?_; (case aP => exact rfl); (case aB => exact bB); (case aF => exact (fun _ _ => trivial)); (case aO => exact (bR HO_9)); (case aS => exact (xbG bB)); (case aL => have := LMc29.out; omega); intro v918 w30 ho hb hg hat; rw [← Ny917.out] at ho; replace BK913 := Aside0.mk (xcG (g := gb913) (o := .cells #[.int .i64 a0_0, .int .i64 a0_1, .int .i64 a0_2, .int .i64 a0_3, .int .i64 a0_4, .int .i64 a0_5, .int .i64 a0_6, .int .i64 a0_7, .int .i64 a0_8, .slice A0_9 l0_9.length c0_9] 117 (0, 0)) (bk BK913) hg (Kd.R_ne HO_9.out BK913.out (by decide))); replace HB := Aside0.mk (hb); have HO919 := Aside0.mk (ho); clear HO_9; clear ho hb hg hat))
                 repeat (go_quiet (first | ((with_reducible refine xaR (b := .append) (xs := #[.tmp 79, .tmp 81]) rfl ?_); (try (refine xbQ (by rfl) ?_; dsimp only)); at_builtin; refine Kd.xbZ (Kd.int .i64) (w0 := w) w.heap.size rfl (.tmp 79) (.tmp 81) 49 3 (.int .i64 0) 8 rfl Tryz.underlying49 info3 rfl (by decide) (by omega) u9 x9_3 t915 [.int .i64 t915] (fun _ => True) (fun _ => False) rfl rfl ?aP (fun _ hk => hk.elim) ?aF ?aO ?aB ?aS ?aL ?_; (case aP => exact rfl); (case aB => exact bB); (case aF => exact (fun _ _ => trivial)); (case aO => exact (bR HO_9)); (case aS => exact (xbG bB)); (case aL => have := LMc29.out; omega); intro v918 w30 ho hb hg hat; rw [← Ny917.out] at ho; replace BK913 := Aside0.mk (xcG (g := gb913) (o := .cells #[.int .i64 a0_0, .int .i64 a0_1, .int .i64 a0_2, .int .i64 a0_3, .int .i64 a0_4, .int .i64 a0_5, .int .i64 a0_6, .int .i64 a0_7, .int .i64 a0_8, .slice A0_9 l0_9.length c0_9] 117 (0, 0)) (bk BK913) hg (Kd.R_ne HO_9.out BK913.out (by decide))); replace HB := Aside0.mk (hb); have HO919 := Aside0.mk (ho); clear HO_9; clear ho hb hg hat)); try go_wp2_with (first | ((with_reducible refine xaR (b := .append) (xs := #[.tmp 79, .tmp 81]) rfl ?_); (try (refine xbQ (by rfl) ?_; dsimp only)); at_builtin; refine Kd.xbZ (Kd.int .i64) (w0 := w) w.heap.size rfl (.tmp 79) (.tmp 81) 49 3 (.int .i64 0) 8 rfl Tryz.underlying49 info3 rfl (by decide) (by omega) u9 x9_3 t915 [.int .i64 t915] (fun _ => True) (fun _ => False) rfl rfl ?aP (fun _ hk => hk.elim) ?aF ?aO ?aB ?aS ?aL ?_; (case aP => exact rfl); (case aB => exact bB); (case aF => exact (fun _ _ => trivial)); (case aO => exact (bR HO_9)); (case aS => exact (xbG bB)); (case aL => have := LMc29.out; omega); intro v918 w30 ho hb hg hat; rw [← Ny917.out] at ho; replace BK913 := Aside0.mk (xcG (g := gb913) (o := .cells #[.int .i64 a0_0, .int .i64 a0_1, .int .i64 a0_2, .int .i64 a0_3, .int .i64 a0_4, .int .i64 a0_5, .int .i64 a0_6, .int .i64 a0_7, .int .i64 a0_8, .slice A0_9 l0_9.length c0_9] 117 (0, 0)) (bk BK913) hg (Kd.R_ne HO_9.out BK913.out (by decide))); replace HB := Aside0.mk (hb); have HO919 := Aside0.mk (ho); clear HO_9; clear ho hb hg hat)))
                 go_roundg kj21
                 case measure => have := HJ3.out; have := HJ10.out; have := HK3.out; have := HJ21.out; omega
                 case rel => exact ⟨(y917), (x10_3), (wrap64 (x39_3 + 1)), eS, eS, H', ⟨by have := HJ3.out; have := HJ10.out; have := HK3.out; have := HJ21.out; omega⟩, ⟨(bR HO919)⟩, ⟨(bk BK913)⟩, ⟨bB⟩⟩
                ·
                 rw [if_neg c29] at H
                 exact absurd H (by simp)
          ·
           replace c18 := Bool.eq_false_iff.mpr c18;subst c18
           have H1 : (xaD.j4 k3 x5_3 x9_3 x10_3 a0_0 a0_1 a0_2 a0_3 a0_4 a0_5 a0_6 a0_7 a0_8 l0_9) = some (r1, r2) := by rw [if_neg (show ¬ (false = true) by decide)] at H; exact H
           clear H;have H := H1;clear H1;have H' := Aside0.mk H;clear H
           obtain ⟨_,_,_,_,_,_,_,_,_,_,_,_,_,_,_,_,_,_,_,_⟩ := blk10 BK913
           go_wp2_with (first | (go_at_call 173; (with_reducible refine (xbE.calls k3 a0_0 a0_1 a0_2 a0_3 a0_4 a0_5 a0_6 a0_7 a0_8 _ _ l0_9 x6_10 (wrap64 (x8_10 * (wrap64 (x39_3 + 1)))) t915 false _ ?side1 ?side2 A17.out).mono ?_); (case side1 => exact sC HR0_9); (case side2 => exact HC0_9.out); rintro e w32 ⟨rfl, hb⟩; replace HO_9 := Aside0.mk (Kd.xbL (bR HO_9) hb); replace BK913 := bK BK913 hb; replace HB := bS hb; (try clear hb); (try clear hb2); (try clear hk); (try clear hi)))
           repeat (go_quiet (first | (go_at_call 173; (with_reducible refine (xbE.calls k3 a0_0 a0_1 a0_2 a0_3 a0_4 a0_5 a0_6 a0_7 a0_8 _ _ l0_9 x6_10 (wrap64 (x8_10 * (wrap64 (x39_3 + 1)))) t915 false _ ?side1 ?side2 A17.out).mono ?_); (case side1 => exact sC HR0_9); (case side2 => exact HC0_9.out); rintro e w32 ⟨rfl, hb⟩; replace HO_9 := Aside0.mk (Kd.xbL (bR HO_9) hb); replace BK913 := bK BK913 hb; replace HB := bS hb; (try clear hb); (try clear hb2); (try clear hk); (try clear hi))); try go_wp2_with (first | (go_at_call 173; (with_reducible refine (xbE.calls k3 a0_0 a0_1 a0_2 a0_3 a0_4 a0_5 a0_6 a0_7 a0_8 _ _ l0_9 x6_10 (wrap64 (x8_10 * (wrap64 (x39_3 + 1)))) t915 false _ ?side1 ?side2 A17.out).mono ?_); (case side1 => exact sC HR0_9); (case side2 => exact HC0_9.out); rintro e w32 ⟨rfl, hb⟩; replace HO_9 := Aside0.mk (Kd.xbL (bR HO_9) hb); replace BK913 := bK BK913 hb; replace HB := bS hb; (try clear hb); (try clear hb2); (try clear hk); (try clear hi))))
           go_meet
           case rel => exact ⟨_, (x9_3), (x10_3), eS, H', ⟨by have := HJ3.out; have := HJ10.out; have := HK3.out; first | omega | exact Nat.le_refl _⟩, ⟨(bR HO_9)⟩, ⟨(bk BK913)⟩, ⟨bB⟩⟩
         ·
          rw [if_neg c16] at H
          have c16b0 : decide (x39_3 < 1201) = false := decide_eq_false c16
          clear c16
          (first | rw [c16b0] | (simp only [i64_w, i32_w]; rw [c16b0]) | skip)
          have H' := Aside0.mk H;clear H
          go_wp2
          repeat (go_quiet (fail); try go_wp2)
          go_meet
          case rel => exact ⟨_, (x9_3), (x10_3), eS, H', ⟨by have := HJ3.out; have := HJ10.out; have := HK3.out; first | omega | exact Nat.le_refl _⟩, ⟨(bR HO_9)⟩, ⟨(bk BK913)⟩, ⟨bB⟩⟩
      case rest =>
       clear HC15
       obtain ⟨kq, x9_14, x10_14, rfl, HA, HJ14, HO_9, BK913, HB⟩ := hcut
       cases kq with
       | zero => exact absurd HA.out (by simp [xaD.j4])
       | succ kj14 =>
        have H := HA.out;clear HA
        simp only [xaD.j4] at H
        have HC33 := Aside0.mk H;clear H
        go_upto_region 22 with (fail)
        repeat (go_quiet (fail); go_upto_region 22 with (fail))
        go_cut [14] (fun v14 wc => ∃ (kq : Nat) (x14_32 : Bool), v14 = .bool x14_32 ∧ Aside0 (xaD.j5 kq x5_3 x9_14 x10_14 x14_32 a0_0 a0_1 a0_2 a0_3 a0_4 a0_5 a0_6 a0_7 a0_8 l0_9 = some (r1, r2)) ∧ Aside0 (kq ≤ kj14) ∧ Aside0 (Kd.R (Kd.int .i64) 3 wc w.heap.size (fun _ => True) u9 x9_14) ∧ Aside0 (wc.heap[gb913]? = some (.cells #[.int .i64 a0_0, .int .i64 a0_1, .int .i64 a0_2, .int .i64 a0_3, .int .i64 a0_4, .int .i64 a0_5, .int .i64 a0_6, .int .i64 a0_7, .int .i64 a0_8, (.slice A0_9 l0_9.length c0_9)] 117 (0, 0))) ∧ Aside0 (Below w.heap.size w wc))
        case first =>
         have H := HC33.out;clear HC33
         by_cases c34 : a0_4 = 2
         ·
          rw [if_pos c34] at H
          have c34b0 : (a0_4 == 2) = true := beq_iff_eq.mpr c34
          have c34b1 : (a0_4 != 2) = false := bne_eq_false_iff_eq.mpr c34
          clear c34
          (first | rw [c34b0] | (simp only [i64_w, i32_w]; rw [c34b0]) | skip)
          have H' := Aside0.mk H;clear H
          obtain ⟨_,_,_,_,_,_,_,_,_,_,_,_,_,_,_,_,_,_,_,_⟩ := blk10 BK913
          go_wp2
          repeat (go_quiet (fail); try go_wp2)
          go_meet
          case rel => exact ⟨_, (true), eS, H', ⟨by have := HJ3.out; have := HJ10.out; have := HJ14.out; first | omega | exact Nat.le_refl _⟩, ⟨(bR HO_9)⟩, ⟨(bk BK913)⟩, ⟨bB⟩⟩
         ·
          rw [if_neg c34] at H
          have c34b0 : (a0_4 == 2) = false := beq_eq_false_iff_ne.mpr c34
          have c34b1 : (a0_4 != 2) = true := bne_iff_ne.mpr c34
          (first | rw [c34b0] | (simp only [i64_w, i32_w]; rw [c34b0]) | skip)
          have H' := Aside0.mk H;clear H
          obtain ⟨_,_,_,_,_,_,_,_,_,_,_,_,_,_,_,_,_,_,_,_⟩ := blk10 BK913
          go_wp2
          repeat (go_quiet (fail); try go_wp2)
          go_meet
          case rel => exact ⟨_, ((a0_4 == 4)), eS, H', ⟨by have := HJ3.out; have := HJ10.out; have := HJ14.out; first | omega | exact Nat.le_refl _⟩, ⟨(bR HO_9)⟩, ⟨(bk BK913)⟩, ⟨bB⟩⟩
        case rest =>
         clear HC33
         obtain ⟨kq, x14_32, rfl, HA, HJ32, HO_9, BK913, HB⟩ := hcut
         cases kq with
         | zero => exact absurd HA.out (by simp [xaD.j5])
         | succ kj32 =>
          have H := HA.out;clear HA
          simp only [xaD.j5] at H
          have HC37 := Aside0.mk H;clear H
          go_upto_region 23 with (fail)
          repeat (go_quiet (fail); go_upto_region 23 with (fail))
          go_cut [101] (fun v101 wc => ∃ (kq : Nat) (x101_36 : Bool), v101 = .bool x101_36 ∧ Aside0 (xaD.j6 kq x5_3 x9_14 x101_36 a0_0 a0_1 a0_2 a0_3 a0_4 a0_5 a0_6 a0_7 a0_8 l0_9 = some (r1, r2)) ∧ Aside0 (kq ≤ kj32) ∧ Aside0 (Kd.R (Kd.int .i64) 3 wc w.heap.size (fun _ => True) u9 x9_14) ∧ Aside0 (wc.heap[gb913]? = some (.cells #[.int .i64 a0_0, .int .i64 a0_1, .int .i64 a0_2, .int .i64 a0_3, .int .i64 a0_4, .int .i64 a0_5, .int .i64 a0_6, .int .i64 a0_7, .int .i64 a0_8, (.slice A0_9 l0_9.length c0_9)] 117 (0, 0))) ∧ Aside0 (Below w.heap.size w wc))
          case first =>
           have H := HC37.out;clear HC37
           by_cases c38 : x14_32 = true
           ·
            subst c38
            have H1 : (if x10_14 = true then (xaD.j6 kj32 x5_3 x9_14 false a0_0 a0_1 a0_2 a0_3 a0_4 a0_5 a0_6 a0_7 a0_8 l0_9) else (xaD.j6 kj32 x5_3 x9_14 (decide ((x9_14.length : Int) > 0)) a0_0 a0_1 a0_2 a0_3 a0_4 a0_5 a0_6 a0_7 a0_8 l0_9)) = some (r1, r2) := by rw [if_pos rfl] at H; exact H
            clear H;have H := H1;clear H1
            by_cases c39 : x10_14 = true
            ·
             subst c39
             have H1 : (xaD.j6 kj32 x5_3 x9_14 false a0_0 a0_1 a0_2 a0_3 a0_4 a0_5 a0_6 a0_7 a0_8 l0_9) = some (r1, r2) := by rw [if_pos rfl] at H; exact H
             clear H;have H := H1;clear H1;have H' := Aside0.mk H;clear H
             go_wp2
             repeat (go_quiet (fail); try go_wp2)
             go_meet
             case rel => exact ⟨_, (false), eS, H', ⟨by have := HJ3.out; have := HJ10.out; have := HJ14.out; have := HJ32.out; first | omega | exact Nat.le_refl _⟩, ⟨(bR HO_9)⟩, ⟨(bk BK913)⟩, ⟨bB⟩⟩
            ·
             replace c39 := Bool.eq_false_iff.mpr c39;subst c39
             have H1 : (xaD.j6 kj32 x5_3 x9_14 (decide ((x9_14.length : Int) > 0)) a0_0 a0_1 a0_2 a0_3 a0_4 a0_5 a0_6 a0_7 a0_8 l0_9) = some (r1, r2) := by rw [if_neg (show ¬ (false = true) by decide)] at H; exact H
             clear H;have H := H1;clear H1;have H' := Aside0.mk H;clear H
             obtain ⟨Ao40, co40, eo40⟩ := Kd.R_slice HO_9.out
             subst eo40
             go_wp2
             repeat (go_quiet (fail); try go_wp2)
             go_meet
             case rel => exact ⟨_, (decide ((x9_14.length : Int) > 0)), eS, H', ⟨by have := HJ3.out; have := HJ10.out; have := HJ14.out; have := HJ32.out; first | omega | exact Nat.le_refl _⟩, ⟨(bR HO_9)⟩, ⟨(bk BK913)⟩, ⟨bB⟩⟩
           ·
            replace c38 := Bool.eq_false_iff.mpr c38;subst c38
            have H1 : (xaD.j6 kj32 x5_3 x9_14 false a0_0 a0_1 a0_2 a0_3 a0_4 a0_5 a0_6 a0_7 a0_8 l0_9) = some (r1, r2) := by rw [if_neg (show ¬ (false = true) by decide)] at H; exact H
            clear H;have H := H1;clear H1;have H' := Aside0.mk H;clear H
            go_wp2
            repeat (go_quiet (fail); try go_wp2)
            go_meet
            case rel => exact ⟨_, (false), eS, H', ⟨by have := HJ3.out; have := HJ10.out; have := HJ14.out; have := HJ32.out; first | omega | exact Nat.le_refl _⟩, ⟨(bR HO_9)⟩, ⟨(bk BK913)⟩, ⟨bB⟩⟩
          case rest =>
           clear HC37
           obtain ⟨kq, x101_36, rfl, HA, HJ36, HO_9, BK913, HB⟩ := hcut
           cases kq with
           | zero => exact absurd HA.out (by simp [xaD.j6])
           | succ kj36 =>
            have H := HA.out;clear HA
            simp only [xaD.j6] at H
            have HC41 := Aside0.mk H;clear H
            go_upto_if 101 with (fail)
            repeat (go_quiet (fail); go_upto_if 101 with (fail))
            go_cut [9] (fun v9 wc => ∃ (kq : Nat) (x9_40 : List Int), Aside0 (xaD.j7 kq x5_3 x9_40 a0_0 a0_1 a0_2 a0_3 a0_4 a0_5 a0_6 a0_7 a0_8 l0_9 = some (r1, r2)) ∧ Aside0 (kq ≤ kj36) ∧ Aside0 (Kd.R (Kd.int .i64) 3 wc w.heap.size (fun _ => True) v9 x9_40) ∧ Aside0 (wc.heap[gb913]? = some (.cells #[.int .i64 a0_0, .int .i64 a0_1, .int .i64 a0_2, .int .i64 a0_3, .int .i64 a0_4, .int .i64 a0_5, .int .i64 a0_6, .int .i64 a0_7, .int .i64 a0_8, (.slice A0_9 l0_9.length c0_9)] 117 (0, 0))) ∧ Aside0 (Below w.heap.size w wc))
            case first =>
             have H := HC41.out;clear HC41
             by_cases c42 : x101_36 = true
             ·
              subst c42
              have H1 : (if 0 ≤ (wrap64 ((x9_14.length : Int) - 1)) then (if (wrap64 ((x9_14.length : Int) - 1)) ≤ (x9_14.length : Int) then (xaD.j7 kj36 x5_3 (x9_14.take ((wrap64 ((x9_14.length : Int) - 1)) : Int).toNat) a0_0 a0_1 a0_2 a0_3 a0_4 a0_5 a0_6 a0_7 a0_8 l0_9) else (none)) else (none)) = some (r1, r2) := by rw [if_pos rfl] at H; exact H
              clear H;have H := H1;clear H1
              obtain ⟨ji43, hji43⟩ : ∃ j_ : Int, (wrap64 ((x9_14.length : Int) - 1)) = j_ := ⟨_, rfl⟩
              replace H : (if 0 ≤ (ji43) then (if (ji43) ≤ (x9_14.length : Int) then (xaD.j7 kj36 x5_3 (x9_14.take ((ji43) : Int).toNat) a0_0 a0_1 a0_2 a0_3 a0_4 a0_5 a0_6 a0_7 a0_8 l0_9) else (none)) else (none)) = some (r1, r2) := by first | (rw [hji43] at H; exact H) | (simp only [hji43] at H ⊢; exact H)
              have hji43w : (IntKind.i64.wrap ((x9_14.length : Int) - 1)) = ji43 := (i64_w _).trans hji43
              by_cases c44 : 0 ≤ (ji43)
              ·
               rw [if_pos c44] at H
               have c44b0 := eq_true c44
               have c44b1 : decide (0 ≤ (ji43)) = true := decide_eq_true c44
               clear c44
               by_cases c45 : (ji43) ≤ (x9_14.length : Int)
               ·
                rw [if_pos c45] at H
                have c45b0 := eq_true c45
                have c45b1 : decide ((ji43) ≤ (x9_14.length : Int)) = true := decide_eq_true c45
                clear c45
                obtain ⟨y920, hy920⟩ : ∃ y_ : List Int, y_ = (x9_14.take ((ji43) : Int).toNat) := ⟨_, rfl⟩
                replace H : (xaD.j7 kj36 x5_3 y920 a0_0 a0_1 a0_2 a0_3 a0_4 a0_5 a0_6 a0_7 a0_8 l0_9) = some (r1, r2) := by first | (rw [hy920]; with_reducible exact H) | (have H2_ := (Option.bind_some _ _).symm.trans H; rw [hy920]; with_reducible exact H2_) | (have H2_ := (Option.bind_some _ _).symm.trans H; with_reducible exact H2_) | with_reducible exact H | (rw [hy920]; exact H) | exact H
                have Ny920 := Aside0.mk hy920;clear hy920;have H' := Aside0.mk H;clear H
                obtain ⟨Ao46, co46, eo46⟩ := Kd.R_slice HO_9.out
                subst eo46
                have q47 : ((ji43) : Int) ≤ ((x9_14.length : Int) : Int) := of_decide_eq_true tA
                obtain ⟨i047, hi047, _, hsz47, _⟩ := info_parts info3
                have hcut47 := cut_to (P := Tryz.prog) 49 3 .i64 Tryz.underlying49 hi047 Ao46 x9_14.length co46 (ji43) (of_decide_eq_true tA) q47 (Kd.R_reads' HO_9.out).2.1
                have hr47 := Kd.R_take (m := ((ji43) : Int).toNat) HO_9.out (by omega)
                have hy47 : y920.length = ((ji43) : Int).toNat := (by rw [Ny920.out, List.length_take]; omega)
                rw [← Ny920.out] at hr47
                rw [← hy47] at hr47 hcut47
                clear hy47 hi047 hsz47 HO_9;have HO922 := Aside0.mk hr47;clear hr47;replace q47 := eq_true q47
                go_wp2
                repeat (go_quiet (fail); try go_wp2)
                go_meet
                case rel => exact ⟨_, (y920), H', ⟨by have := HJ3.out; have := HJ10.out; have := HJ14.out; have := HJ32.out; have := HJ36.out; first | omega | exact Nat.le_refl _⟩, ⟨(bR HO922)⟩, ⟨(bk BK913)⟩, ⟨bB⟩⟩
               ·
                rw [if_neg c45] at H
                exact absurd H (by simp)
              ·
               rw [if_neg c44] at H
               exact absurd H (by simp)
             ·
              replace c42 := Bool.eq_false_iff.mpr c42;subst c42
              have H1 : (xaD.j7 kj36 x5_3 x9_14 a0_0 a0_1 a0_2 a0_3 a0_4 a0_5 a0_6 a0_7 a0_8 l0_9) = some (r1, r2) := by rw [if_neg (show ¬ (false = true) by decide)] at H; exact H
              clear H;have H := H1;clear H1;have H' := Aside0.mk H;clear H
              go_wp2
              repeat (go_quiet (fail); try go_wp2)
              go_meet
              case rel => exact ⟨_, (x9_14), H', ⟨by have := HJ3.out; have := HJ10.out; have := HJ14.out; have := HJ32.out; have := HJ36.out; first | omega | exact Nat.le_refl _⟩, ⟨(bR HO_9)⟩, ⟨(bk BK913)⟩, ⟨bB⟩⟩
            case rest =>
             clear HC41
             obtain ⟨kq, x9_40, HA, HJ40, HO_9, BK913, HB⟩ := hcut
             cases kq with
             | zero => exact absurd HA.out (by simp [xaD.j7])
             | succ kj40 =>
              have H := HA.out;clear HA
              simp only [xaD.j7] at H
              obtain ⟨ji48, hji48⟩ : ∃ j_ : Int, (wrap64 ((x9_40.length : Int) + 2)) = j_ := ⟨_, rfl⟩
              replace H : (if 0 ≤ (ji48) then (if (ji48 : Int).toNat ≤ 35184372088832 then ((some (List.replicate 0 0 : List Int)).bind fun y923 => (if y923.length < 17592186044416 then (xaD.l1 kj40 x5_3 x9_40 (y923 ++ [a0_0]) (x9_40.length : Int) 0 a0_0 a0_1 a0_2 a0_3 a0_4 a0_5 a0_6 a0_7 a0_8 l0_9) else (none))) else (none)) else (none)) = some (r1, r2) := by first | (rw [hji48] at H; exact H) | (simp only [hji48] at H ⊢; exact H)
              have hji48w : (IntKind.i64.wrap ((x9_40.length : Int) + 2)) = ji48 := (i64_w _).trans hji48
              by_cases c49 : 0 ≤ (ji48)
              ·
               rw [if_pos c49] at H
               have c49b0 := eq_true c49
               have c49b1 : decide (0 ≤ (ji48)) = true := decide_eq_true c49
               clear c49
               by_cases c50 : (ji48 : Int).toNat ≤ 35184372088832
               ·
                rw [if_pos c50] at H
                have c50b0 := eq_true c50
                have c50b1 : decide ((ji48 : Int).toNat ≤ 35184372088832) = true := decide_eq_true c50
                clear c50
                obtain ⟨y923, hy923⟩ : ∃ y_ : List Int, y_ = (List.replicate 0 0) := ⟨_, rfl⟩
                replace H : (if y923.length < 17592186044416 then (xaD.l1 kj40 x5_3 x9_40 (y923 ++ [a0_0]) (x9_40.length : Int) 0 a0_0 a0_1 a0_2 a0_3 a0_4 a0_5 a0_6 a0_7 a0_8 l0_9) else (none)) = some (r1, r2) := by first | (rw [hy923]; with_reducible exact H) | (have H2_ := (Option.bind_some _ _).symm.trans H; rw [hy923]; with_reducible exact H2_) | (have H2_ := (Option.bind_some _ _).symm.trans H; with_reducible exact H2_) | with_reducible exact H | (rw [hy923]; exact H) | exact H
                have Ny923 := Aside0.mk hy923;clear hy923
                by_cases c51 : y923.length < 17592186044416
                ·
                 rw [if_pos c51] at H
                 have LMc51 := Aside0.mk c51;clear c51
                 obtain ⟨y926, hy926⟩ : ∃ y_ : List Int, y_ = (y923 ++ [a0_0]) := ⟨_, rfl⟩
                 replace H : (xaD.l1 kj40 x5_3 x9_40 y926 (x9_40.length : Int) 0 a0_0 a0_1 a0_2 a0_3 a0_4 a0_5 a0_6 a0_7 a0_8 l0_9) = some (r1, r2) := by first | (rw [hy926]; with_reducible exact H) | (have H2_ := (Option.bind_some _ _).symm.trans H; rw [hy926]; with_reducible exact H2_) | (have H2_ := (Option.bind_some _ _).symm.trans H; with_reducible exact H2_) | with_reducible exact H | (rw [hy926]; exact H) | exact H
                 have Ny926 := Aside0.mk hy926;clear hy926;have H' := Aside0.mk H;clear H
                 obtain ⟨Ao52, co52, eo52⟩ := Kd.R_slice HO_9.out
                 subst eo52
                 go_wp2_with (first | ((with_reducible refine xaU (N := 110) rfl ?_); (try (refine xbQ (by rfl) ?_; dsimp only)); refine Kd.xfN (Kd.int .i64) _ 3 rfl (N := 110) rfl 49 _ _ rfl ji48 rfl rfl Tryz.underlying49 (.int .i64 0) 8 info3 rfl (by decide) (by omega) 0 (ok := fun _ => True) (okp := fun _ => True) rfl (fun _ hk => hk) trivial (of_decide_eq_true tA) (Nat.le_trans (Nat.mul_le_mul_right _ (of_decide_eq_true tA : ji48.toNat ≤ 35184372088832)) (by omega)) (Below.refl _ _) (Nat.le_refl _) ?_; intro v924 w53 ho54 hb hg_ hnew_; clear hg_ hnew_; (first | rw [← Ny923.out] at ho54 | (simp only [Int.reduceToNat] at ho54; rw [← Ny923.out] at ho54)); have HO925 := Aside0.mk (Kd.xfP (Kd.R_new' ho54 (Kd.R_lt (bR HO_9))) (xbG bB)); replace HO_9 := Aside0.mk (Kd.R_elder' (bR HO_9) (Kd.R_base ho54) hb); replace BK913 := bK BK913 hb; replace HB := bS hb; clear hb ho54; obtain ⟨hcz55_0,hcz55_1,hcz55_2,hcz55_3,hcz55_4,hcz55_5,hcz55_6,hcz55_7,hcz55_8,hcz55_9,hfz55_0,hfz55_1,hfz55_2,hfz55_3,hfz55_4,hfz55_5,hfz55_6,hfz55_7,hfz55_8,hfz55_9⟩ := blk10 BK913) | ((with_reducible refine xaR (b := .append) (xs := #[.tmp 111, .tmp 114]) rfl ?_); (try (refine xbQ (by rfl) ?_; dsimp only)); at_builtin; refine Kd.xbZ (Kd.int .i64) (w0 := w) w.heap.size rfl (.tmp 111) (.tmp 114) 49 3 (.int .i64 0) 8 rfl Tryz.underlying49 info3 rfl (by decide) (by omega) v924 y923 a0_0 [.int .i64 a0_0] (fun k_ => some k_ ≠ (.slice Ao52 x9_40.length co52 : Value).ownBlock) (fun _ => False) rfl rfl ?aP (fun _ hk => hk.elim) ?aF ?aO ?aB ?aS ?aL ?_; (case aP => exact rfl); (case aB => exact bB); (case aF => exact (fun k_ hk => Kd.fresh' (Kd.R_lt (bR HO_9)) k_ hk)); (case aO => exact (by (with_reducible repeat (first | apply Kd.xbJ | apply Kd.xbK | apply Kd.R_drew)); exact Kd.R_mono HO925.out (fun _ hk => hk.2))); (case aS => exact (xbG bB)); (case aL => have := LMc51.out; omega); intro v927 w56 ho hb hg hat; rw [← Ny926.out] at ho; replace HO_9 := Aside0.mk (Kd.xeD (ok := (fun _ => True)) (bR HO_9) hg hat); replace BK913 := Aside0.mk (xcG (g := gb913) (o := .cells #[.int .i64 a0_0, .int .i64 a0_1, .int .i64 a0_2, .int .i64 a0_3, .int .i64 a0_4, .int .i64 a0_5, .int .i64 a0_6, .int .i64 a0_7, .int .i64 a0_8, .slice A0_9 l0_9.length c0_9] 117 (0, 0)) (bk BK913) hg (Kd.R_ne HO925.out BK913.out (by decide))); replace HB := Aside0.mk (hb); have HO928 := Aside0.mk (ho); clear HO925; clear ho hb hg hat))
                 repeat (go_quiet (first | ((with_reducible refine xaU (N := 110) rfl ?_); (try (refine xbQ (by rfl) ?_; dsimp only)); refine Kd.xfN (Kd.int .i64) _ 3 rfl (N := 110) rfl 49 _ _ rfl ji48 rfl rfl Tryz.underlying49 (.int .i64 0) 8 info3 rfl (by decide) (by omega) 0 (ok := fun _ => True) (okp := fun _ => True) rfl (fun _ hk => hk) trivial (of_decide_eq_true tA) (Nat.le_trans (Nat.mul_le_mul_right _ (of_decide_eq_true tA : ji48.toNat ≤ 35184372088832)) (by omega)) (Below.refl _ _) (Nat.le_refl _) ?_; intro v924 w53 ho54 hb hg_ hnew_; clear hg_ hnew_; (first | rw [← Ny923.out] at ho54 | (simp only [Int.reduceToNat] at ho54; rw [← Ny923.out] at ho54)); have HO925 := Aside0.mk (Kd.xfP (Kd.R_new' ho54 (Kd.R_lt (bR HO_9))) (xbG bB)); replace HO_9 := Aside0.mk (Kd.R_elder' (bR HO_9) (Kd.R_base ho54) hb); replace BK913 := bK BK913 hb; replace HB := bS hb; clear hb ho54; obtain ⟨hcz55_0,hcz55_1,hcz55_2,hcz55_3,hcz55_4,hcz55_5,hcz55_6,hcz55_7,hcz55_8,hcz55_9,hfz55_0,hfz55_1,hfz55_2,hfz55_3,hfz55_4,hfz55_5,hfz55_6,hfz55_7,hfz55_8,hfz55_9⟩ := blk10 BK913) | ((with_reducible refine xaR (b := .append) (xs := #[.tmp 111, .tmp 114]) rfl ?_); (try (refine xbQ (by rfl) ?_; dsimp only)); at_builtin; refine Kd.xbZ (Kd.int .i64) (w0 := w) w.heap.size rfl (.tmp 111) (.tmp 114) 49 3 (.int .i64 0) 8 rfl Tryz.underlying49 info3 rfl (by decide) (by omega) v924 y923 a0_0 [.int .i64 a0_0] (fun k_ => some k_ ≠ (.slice Ao52 x9_40.length co52 : Value).ownBlock) (fun _ => False) rfl rfl ?aP (fun _ hk => hk.elim) ?aF ?aO ?aB ?aS ?aL ?_; (case aP => exact rfl); (case aB => exact bB); (case aF => exact (fun k_ hk => Kd.fresh' (Kd.R_lt (bR HO_9)) k_ hk)); (case aO => exact (by (with_reducible repeat (first | apply Kd.xbJ | apply Kd.xbK | apply Kd.R_drew)); exact Kd.R_mono HO925.out (fun _ hk => hk.2))); (case aS => exact (xbG bB)); (case aL => have := LMc51.out; omega); intro v927 w56 ho hb hg hat; rw [← Ny926.out] at ho; replace HO_9 := Aside0.mk (Kd.xeD (ok := (fun _ => True)) (bR HO_9) hg hat); replace BK913 := Aside0.mk (xcG (g := gb913) (o := .cells #[.int .i64 a0_0, .int .i64 a0_1, .int .i64 a0_2, .int .i64 a0_3, .int .i64 a0_4, .int .i64 a0_5, .int .i64 a0_6, .int .i64 a0_7, .int .i64 a0_8, .slice A0_9 l0_9.length c0_9] 117 (0, 0)) (bk BK913) hg (Kd.R_ne HO925.out BK913.out (by decide))); replace HB := Aside0.mk (hb); have HO928 := Aside0.mk (ho); clear HO925; clear ho hb hg hat)); try go_wp2_with (first | ((with_reducible refine xaU (N := 110) rfl ?_); (try (refine xbQ (by rfl) ?_; dsimp only)); refine Kd.xfN (Kd.int .i64) _ 3 rfl (N := 110) rfl 49 _ _ rfl ji48 rfl rfl Tryz.underlying49 (.int .i64 0) 8 info3 rfl (by decide) (by omega) 0 (ok := fun _ => True) (okp := fun _ => True) rfl (fun _ hk => hk) trivial (of_decide_eq_true tA) (Nat.le_trans (Nat.mul_le_mul_right _ (of_decide_eq_true tA : ji48.toNat ≤ 35184372088832)) (by omega)) (Below.refl _ _) (Nat.le_refl _) ?_; intro v924 w53 ho54 hb hg_ hnew_; clear hg_ hnew_; (first | rw [← Ny923.out] at ho54 | (simp only [Int.reduceToNat] at ho54; rw [← Ny923.out] at ho54)); have HO925 := Aside0.mk (Kd.xfP (Kd.R_new' ho54 (Kd.R_lt (bR HO_9))) (xbG bB)); replace HO_9 := Aside0.mk (Kd.R_elder' (bR HO_9) (Kd.R_base ho54) hb); replace BK913 := bK BK913 hb; replace HB := bS hb; clear hb ho54; obtain ⟨hcz55_0,hcz55_1,hcz55_2,hcz55_3,hcz55_4,hcz55_5,hcz55_6,hcz55_7,hcz55_8,hcz55_9,hfz55_0,hfz55_1,hfz55_2,hfz55_3,hfz55_4,hfz55_5,hfz55_6,hfz55_7,hfz55_8,hfz55_9⟩ := blk10 BK913) | ((with_reducible refine xaR (b := .append) (xs := #[.tmp 111, .tmp 114]) rfl ?_); (try (refine xbQ (by rfl) ?_; dsimp only)); at_builtin; refine Kd.xbZ (Kd.int .i64) (w0 := w) w.heap.size rfl (.tmp 111) (.tmp 114) 49 3 (.int .i64 0) 8 rfl Tryz.underlying49 info3 rfl (by decide) (by omega) v924 y923 a0_0 [.int .i64 a0_0] (fun k_ => some k_ ≠ (.slice Ao52 x9_40.length co52 : Value).ownBlock) (fun _ => False) rfl rfl ?aP (fun _ hk => hk.elim) ?aF ?aO ?aB ?aS ?aL ?_; (case aP => exact rfl); (case aB => exact bB); (case aF => exact (fun k_ hk => Kd.fresh' (Kd.R_lt (bR HO_9)) k_ hk)); (case aO => exact (by (with_reducible repeat (first | apply Kd.xbJ | apply Kd.xbK | apply Kd.R_drew)); exact Kd.R_mono HO925.out (fun _ hk => hk.2))); (case aS => exact (xbG bB)); (case aL => have := LMc51.out; omega); intro v927 w56 ho hb hg hat; rw [← Ny926.out] at ho; replace HO_9 := Aside0.mk (Kd.xeD (ok := (fun _ => True)) (bR HO_9) hg hat); replace BK913 := Aside0.mk (xcG (g := gb913) (o := .cells #[.int .i64 a0_0, .int .i64 a0_1, .int .i64 a0_2, .int .i64 a0_3, .int .i64 a0_4, .int .i64 a0_5, .int .i64 a0_6, .int .i64 a0_7, .int .i64 a0_8, .slice A0_9 l0_9.length c0_9] 117 (0, 0)) (bk BK913) hg (Kd.R_ne HO925.out BK913.out (by decide))); replace HB := Aside0.mk (hb); have HO928 := Aside0.mk (ho); clear HO925; clear ho hb hg hat)))
                 go_loopg [15, 118] kj40 (fun kq v15 v118 w' => ∃ (x15_7 : List Int) (x118_7 : Int), v118 = .int .i64 x118_7 ∧ Aside0 (xaD.l1 kq x5_3 x9_40 x15_7 (x9_40.length : Int) x118_7 a0_0 a0_1 a0_2 a0_3 a0_4 a0_5 a0_6 a0_7 a0_8 l0_9 = some (r1, r2)) ∧ Aside0 (kq ≤ kj40) ∧ Aside0 (Kd.R (Kd.int .i64) 3 w' w.heap.size (fun k_ => some k_ ≠ (v15 : Value).ownBlock) (.slice Ao52 x9_40.length co52) x9_40) ∧ Aside0 (Kd.R (Kd.int .i64) 3 w' w.heap.size (fun k_ => some k_ ≠ ((.slice Ao52 x9_40.length co52) : Value).ownBlock) v15 x15_7) ∧ Aside0 (w'.heap[gb913]? = some (.cells #[.int .i64 a0_0, .int .i64 a0_1, .int .i64 a0_2, .int .i64 a0_3, .int .i64 a0_4, .int .i64 a0_5, .int .i64 a0_6, .int .i64 a0_7, .int .i64 a0_8, (.slice A0_9 l0_9.length c0_9)] 117 (0, 0))) ∧ Aside0 (Below w.heap.size w w'))
                 case atStart => exact ⟨(y926), (0), eS, H', ⟨Nat.le_refl _⟩, ⟨by (with_reducible repeat (first | apply Kd.xbJ | apply Kd.xbK | apply Kd.R_drew)); exact Kd.R_mono HO_9.out (fun _ hk => hk.2)⟩, ⟨(bR HO928)⟩, ⟨(bk BK913)⟩, ⟨bB⟩⟩
                 case round =>
                  clear H'
                  obtain ⟨x15_7, x118_7, rfl, HA, HK7, HO_9, HO_15, BK913, HB⟩ := hrel
                  cases gk with
                  | zero => exact absurd HA.out (by simp [xaD.l1])
                  | succ k7 =>
                   have H := HA.out;clear HA
                   simp only [xaD.l1] at H
                   by_cases c57 : x118_7 < (x9_40.length : Int)
                   ·
                    rw [if_pos c57] at H
                    have c57b0 : decide (x118_7 < (x9_40.length : Int)) = true := decide_eq_true c57
                    clear c57
                    by_cases c58 : x5_3 = true
                    ·
                     subst c58
                     have H1 : (if 0 ≤ (wrap64 ((wrap64 ((x9_40.length : Int) - 1)) - x118_7)) then (if (wrap64 ((wrap64 ((x9_40.length : Int) - 1)) - x118_7)) < (x9_40.length : Int) then (if x15_7.length < 17592186044416 then (xaD.l1 k7 true x9_40 (x15_7 ++ [rd x9_40 (wrap64 ((wrap64 ((x9_40.length : Int) - 1)) - x118_7))]) (x9_40.length : Int) (wrap64 (x118_7 + 1)) a0_0 a0_1 a0_2 a0_3 a0_4 a0_5 a0_6 a0_7 a0_8 l0_9) else (none)) else (none)) else (none)) = some (r1, r2) := by rw [if_pos rfl] at H; exact H
                     clear H;have H := H1;clear H1
                     obtain ⟨ji59, hji59⟩ : ∃ j_ : Int, (wrap64 ((wrap64 ((x9_40.length : Int) - 1)) - x118_7)) = j_ := ⟨_, rfl⟩
                     replace H : (if 0 ≤ (ji59) then (if (ji59) < (x9_40.length : Int) then (if x15_7.length < 17592186044416 then (xaD.l1 k7 true x9_40 (x15_7 ++ [rd x9_40 (ji59)]) (x9_40.length : Int) (wrap64 (x118_7 + 1)) a0_0 a0_1 a0_2 a0_3 a0_4 a0_5 a0_6 a0_7 a0_8 l0_9) else (none)) else (none)) else (none)) = some (r1, r2) := by first | (rw [hji59] at H; exact H) | (simp only [hji59] at H ⊢; exact H)
                     have hji59w : (IntKind.i64.wrap ((wrap64 ((x9_40.length : Int) - 1)) - x118_7)) = ji59 := (i64_w _).trans hji59
                     by_cases c60 : 0 ≤ (ji59)
                     ·
                      rw [if_pos c60] at H
                      have c60b0 : decide (0 ≤ (ji59)) = true := decide_eq_true c60
                      clear c60
                      by_cases c61 : (ji59) < (x9_40.length : Int)
                      ·
                       rw [if_pos c61] at H
                       have c61b0 : decide ((ji59) < (x9_40.length : Int)) = true := decide_eq_true c61
                       clear c61
                       by_cases c62 : x15_7.length < 17592186044416
                       ·
                        rw [if_pos c62] at H
                        have LMc62 := Aside0.mk c62;clear c62
                        obtain ⟨y930, hy930⟩ : ∃ y_ : List Int, y_ = (x15_7 ++ [rd x9_40 (ji59)]) := ⟨_, rfl⟩
                        replace H : (xaD.l1 k7 true x9_40 y930 (x9_40.length : Int) (wrap64 (x118_7 + 1)) a0_0 a0_1 a0_2 a0_3 a0_4 a0_5 a0_6 a0_7 a0_8 l0_9) = some (r1, r2) := by first | (rw [hy930]; with_reducible exact H) | (have H2_ := (Option.bind_some _ _).symm.trans H; rw [hy930]; with_reducible exact H2_) | (have H2_ := (Option.bind_some _ _).symm.trans H; with_reducible exact H2_) | with_reducible exact H | (rw [hy930]; exact H) | exact H
                        have Ny930 := Aside0.mk hy930;clear hy930;have H' := Aside0.mk H;clear H
                        have p929 : 0 ≤ ((ji59) : Int) := of_decide_eq_true tA
                        have q929 : (ji59) < (x9_40.length : Int) := of_decide_eq_true tA
                        obtain ⟨ad929, e929, hx929_0⟩ := Kd.at_int (Kd.R_reads' HO_9.out).2.2 (ji59) p929 q929
                        cases e929
                        replace p929 := eq_true p929;replace q929 := eq_true q929
                        go_wp2_with (first | ((with_reducible refine xaR (b := .append) (xs := #[.tmp 127, .tmp 132]) rfl ?_); (try (refine xbQ (by rfl) ?_; dsimp only)); at_builtin; refine Kd.xbZ (Kd.int .i64) (w0 := w) w.heap.size rfl (.tmp 127) (.tmp 132) 49 3 (.int .i64 0) 8 rfl Tryz.underlying49 info3 rfl (by decide) (by omega) u15 x15_7 (rd x9_40 (ji59)) [.int .i64 (rd x9_40 (ji59))] (fun k_ => some k_ ≠ (.slice (some ad929) x9_40.length co52 : Value).ownBlock) (fun _ => False) rfl rfl ?aP (fun _ hk => hk.elim) ?aF ?aO ?aB ?aS ?aL ?_; (case aP => exact rfl); (case aB => exact bB); (case aF => exact (fun k_ hk => Kd.fresh' (Kd.R_lt (bR HO_9)) k_ hk)); (case aO => exact (bR HO_15)); (case aS => exact (xbG bB)); (case aL => have := LMc62.out; omega); intro v931 w63 ho hb hg hat; rw [← Ny930.out] at ho; replace HO_9 := Aside0.mk (Kd.xeD (ok := (fun _ => True)) (by (with_reducible repeat (first | apply Kd.xbJ | apply Kd.xbK | apply Kd.R_drew)); exact Kd.R_mono HO_9.out (fun _ hk => ⟨trivial, hk⟩)) hg hat); replace BK913 := Aside0.mk (xcG (g := gb913) (o := .cells #[.int .i64 a0_0, .int .i64 a0_1, .int .i64 a0_2, .int .i64 a0_3, .int .i64 a0_4, .int .i64 a0_5, .int .i64 a0_6, .int .i64 a0_7, .int .i64 a0_8, .slice A0_9 l0_9.length c0_9] 117 (0, 0)) (bk BK913) hg (Kd.R_ne HO_15.out BK913.out (by decide))); replace HB := Aside0.mk (hb); have HO932 := Aside0.mk (ho); clear HO_15; clear ho hb hg hat))
                        repeat (go_quiet (first | ((with_reducible refine xaR (b := .append) (xs := #[.tmp 127, .tmp 132]) rfl ?_); (try (refine xbQ (by rfl) ?_; dsimp only)); at_builtin; refine Kd.xbZ (Kd.int .i64) (w0 := w) w.heap.size rfl (.tmp 127) (.tmp 132) 49 3 (.int .i64 0) 8 rfl Tryz.underlying49 info3 rfl (by decide) (by omega) u15 x15_7 (rd x9_40 (ji59)) [.int .i64 (rd x9_40 (ji59))] (fun k_ => some k_ ≠ (.slice (some ad929) x9_40.length co52 : Value).ownBlock) (fun _ => False) rfl rfl ?aP (fun _ hk => hk.elim) ?aF ?aO ?aB ?aS ?aL ?_; (case aP => exact rfl); (case aB => exact bB); (case aF => exact (fun k_ hk => Kd.fresh' (Kd.R_lt (bR HO_9)) k_ hk)); (case aO => exact (bR HO_15)); (case aS => exact (xbG bB)); (case aL => have := LMc62.out; omega); intro v931 w63 ho hb hg hat; rw [← Ny930.out] at ho; replace HO_9 := Aside0.mk (Kd.xeD (ok := (fun _ => True)) (by (with_reducible repeat (first | apply Kd.xbJ | apply Kd.xbK | apply Kd.R_drew)); exact Kd.R_mono HO_9.out (fun _ hk => ⟨trivial, hk⟩)) hg hat); replace BK913 := Aside0.mk (xcG (g := gb913) (o := .cells #[.int .i64 a0_0, .int .i64 a0_1, .int .i64 a0_2, .int .i64 a0_3, .int .i64 a0_4, .int .i64 a0_5, .int .i64 a0_6, .int .i64 a0_7, .int .i64 a0_8, .slice A0_9 l0_9.length c0_9] 117 (0, 0)) (bk BK913) hg (Kd.R_ne HO_15.out BK913.out (by decide))); replace HB := Aside0.mk (hb); have HO932 := Aside0.mk (ho); clear HO_15; clear ho hb hg hat)); try go_wp2_with (first | ((with_reducible refine xaR (b := .append) (xs := #[.tmp 127, .tmp 132]) rfl ?_); (try (refine xbQ (by rfl) ?_; dsimp only)); at_builtin; refine Kd.xbZ (Kd.int .i64) (w0 := w) w.heap.size rfl (.tmp 127) (.tmp 132) 49 3 (.int .i64 0) 8 rfl Tryz.underlying49 info3 rfl (by decide) (by omega) u15 x15_7 (rd x9_40 (ji59)) [.int .i64 (rd x9_40 (ji59))] (fun k_ => some k_ ≠ (.slice (some ad929) x9_40.length co52 : Value).ownBlock) (fun _ => False) rfl rfl ?aP (fun _ hk => hk.elim) ?aF ?aO ?aB ?aS ?aL ?_; (case aP => exact rfl); (case aB => exact bB); (case aF => exact (fun k_ hk => Kd.fresh' (Kd.R_lt (bR HO_9)) k_ hk)); (case aO => exact (bR HO_15)); (case aS => exact (xbG bB)); (case aL => have := LMc62.out; omega); intro v931 w63 ho hb hg hat; rw [← Ny930.out] at ho; replace HO_9 := Aside0.mk (Kd.xeD (ok := (fun _ => True)) (by (with_reducible repeat (first | apply Kd.xbJ | apply Kd.xbK | apply Kd.R_drew)); exact Kd.R_mono HO_9.out (fun _ hk => ⟨trivial, hk⟩)) hg hat); replace BK913 := Aside0.mk (xcG (g := gb913) (o := .cells #[.int .i64 a0_0, .int .i64 a0_1, .int .i64 a0_2, .int .i64 a0_3, .int .i64 a0_4, .int .i64 a0_5, .int .i64 a0_6, .int .i64 a0_7, .int .i64 a0_8, .slice A0_9 l0_9.length c0_9] 117 (0, 0)) (bk BK913) hg (Kd.R_ne HO_15.out BK913.out (by decide))); replace HB := Aside0.mk (hb); have HO932 := Aside0.mk (ho); clear HO_15; clear ho hb hg hat)))
                        go_roundg k7
                        case measure => have := HJ3.out; have := HJ10.out; have := HJ14.out; have := HJ32.out; have := HJ36.out; have := HJ40.out; have := HK7.out; omega
                        case rel => exact ⟨(y930), (wrap64 (x118_7 + 1)), eS, H', ⟨by have := HJ3.out; have := HJ10.out; have := HJ14.out; have := HJ32.out; have := HJ36.out; have := HJ40.out; have := HK7.out; omega⟩, ⟨by (with_reducible repeat (first | apply Kd.xbJ | apply Kd.xbK | apply Kd.R_drew)); exact Kd.R_mono HO_9.out (fun _ hk => hk.2)⟩, ⟨(bR HO932)⟩, ⟨(bk BK913)⟩, ⟨bB⟩⟩
                       ·
                        rw [if_neg c62] at H
                        exact absurd H (by simp)
                      ·
                       rw [if_neg c61] at H
                       exact absurd H (by simp)
                     ·
                      rw [if_neg c60] at H
                      exact absurd H (by simp)
                    ·
                     replace c58 := Bool.eq_false_iff.mpr c58;subst c58
                     have H1 : (if 0 ≤ x118_7 then (if x118_7 < (x9_40.length : Int) then (if x15_7.length < 17592186044416 then (xaD.l1 k7 false x9_40 (x15_7 ++ [rd x9_40 x118_7]) (x9_40.length : Int) (wrap64 (x118_7 + 1)) a0_0 a0_1 a0_2 a0_3 a0_4 a0_5 a0_6 a0_7 a0_8 l0_9) else (none)) else (none)) else (none)) = some (r1, r2) := by rw [if_neg (show ¬ (false = true) by decide)] at H; exact H
                     clear H;have H := H1;clear H1
                     by_cases c64 : 0 ≤ x118_7
                     ·
                      rw [if_pos c64] at H
                      have c64b0 : decide (0 ≤ x118_7) = true := decide_eq_true c64
                      clear c64
                      by_cases c65 : x118_7 < (x9_40.length : Int)
                      ·
                       rw [if_pos c65] at H
                       have c65b0 : decide (x118_7 < (x9_40.length : Int)) = true := decide_eq_true c65
                       clear c65
                       by_cases c66 : x15_7.length < 17592186044416
                       ·
                        rw [if_pos c66] at H
                        have LMc66 := Aside0.mk c66;clear c66
                        obtain ⟨y934, hy934⟩ : ∃ y_ : List Int, y_ = (x15_7 ++ [rd x9_40 x118_7]) := ⟨_, rfl⟩
                        replace H : (xaD.l1 k7 false x9_40 y934 (x9_40.length : Int) (wrap64 (x118_7 + 1)) a0_0 a0_1 a0_2 a0_3 a0_4 a0_5 a0_6 a0_7 a0_8 l0_9) = some (r1, r2) := by first | (rw [hy934]; with_reducible exact H) | (have H2_ := (Option.bind_some _ _).symm.trans H; rw [hy934]; with_reducible exact H2_) | (have H2_ := (Option.bind_some _ _).symm.trans H; with_reducible exact H2_) | with_reducible exact H | (rw [hy934]; exact H) | exact H
                        have Ny934 := Aside0.mk hy934;clear hy934;have H' := Aside0.mk H;clear H
                        have p933 : 0 ≤ (x118_7 : Int) := of_decide_eq_true tA
                        have q933 : x118_7 < (x9_40.length : Int) := of_decide_eq_true tA
                        obtain ⟨ad933, e933, hx933_0⟩ := Kd.at_int (Kd.R_reads' HO_9.out).2.2 x118_7 p933 q933
                        cases e933
                        replace p933 := eq_true p933;replace q933 := eq_true q933
                        go_wp2_with (first | ((with_reducible refine xaR (b := .append) (xs := #[.tmp 127, .tmp 132]) rfl ?_); (try (refine xbQ (by rfl) ?_; dsimp only)); at_builtin; refine Kd.xbZ (Kd.int .i64) (w0 := w) w.heap.size rfl (.tmp 127) (.tmp 132) 49 3 (.int .i64 0) 8 rfl Tryz.underlying49 info3 rfl (by decide) (by omega) u15 x15_7 (rd x9_40 x118_7) [.int .i64 (rd x9_40 x118_7)] (fun k_ => some k_ ≠ (.slice (some ad933) x9_40.length co52 : Value).ownBlock) (fun _ => False) rfl rfl ?aP (fun _ hk => hk.elim) ?aF ?aO ?aB ?aS ?aL ?_; (case aP => exact rfl); (case aB => exact bB); (case aF => exact (fun k_ hk => Kd.fresh' (Kd.R_lt (bR HO_9)) k_ hk)); (case aO => exact (bR HO_15)); (case aS => exact (xbG bB)); (case aL => have := LMc66.out; omega); intro v935 w67 ho hb hg hat; rw [← Ny934.out] at ho; replace HO_9 := Aside0.mk (Kd.xeD (ok := (fun _ => True)) (by (with_reducible repeat (first | apply Kd.xbJ | apply Kd.xbK | apply Kd.R_drew)); exact Kd.R_mono HO_9.out (fun _ hk => ⟨trivial, hk⟩)) hg hat); replace BK913 := Aside0.mk (xcG (g := gb913) (o := .cells #[.int .i64 a0_0, .int .i64 a0_1, .int .i64 a0_2, .int .i64 a0_3, .int .i64 a0_4, .int .i64 a0_5, .int .i64 a0_6, .int .i64 a0_7, .int .i64 a0_8, .slice A0_9 l0_9.length c0_9] 117 (0, 0)) (bk BK913) hg (Kd.R_ne HO_15.out BK913.out (by decide))); replace HB := Aside0.mk (hb); have HO936 := Aside0.mk (ho); clear HO_15; clear ho hb hg hat))
                        repeat (go_quiet (first | ((with_reducible refine xaR (b := .append) (xs := #[.tmp 127, .tmp 132]) rfl ?_); (try (refine xbQ (by rfl) ?_; dsimp only)); at_builtin; refine Kd.xbZ (Kd.int .i64) (w0 := w) w.heap.size rfl (.tmp 127) (.tmp 132) 49 3 (.int .i64 0) 8 rfl Tryz.underlying49 info3 rfl (by decide) (by omega) u15 x15_7 (rd x9_40 x118_7) [.int .i64 (rd x9_40 x118_7)] (fun k_ => some k_ ≠ (.slice (some ad933) x9_40.length co52 : Value).ownBlock) (fun _ => False) rfl rfl ?aP (fun _ hk => hk.elim) ?aF ?aO ?aB ?aS ?aL ?_; (case aP => exact rfl); (case aB => exact bB); (case aF => exact (fun k_ hk => Kd.fresh' (Kd.R_lt (bR HO_9)) k_ hk)); (case aO => exact (bR HO_15)); (case aS => exact (xbG bB)); (case aL => have := LMc66.out; omega); intro v935 w67 ho hb hg hat; rw [← Ny934.out] at ho; replace HO_9 := Aside0.mk (Kd.xeD (ok := (fun _ => True)) (by (with_reducible repeat (first | apply Kd.xbJ | apply Kd.xbK | apply Kd.R_drew)); exact Kd.R_mono HO_9.out (fun _ hk => ⟨trivial, hk⟩)) hg hat); replace BK913 := Aside0.mk (xcG (g := gb913) (o := .cells #[.int .i64 a0_0, .int .i64 a0_1, .int .i64 a0_2, .int .i64 a0_3, .int .i64 a0_4, .int .i64 a0_5, .int .i64 a0_6, .int .i64 a0_7, .int .i64 a0_8, .slice A0_9 l0_9.length c0_9] 117 (0, 0)) (bk BK913) hg (Kd.R_ne HO_15.out BK913.out (by decide))); replace HB := Aside0.mk (hb); have HO936 := Aside0.mk (ho); clear HO_15; clear ho hb hg hat)); try go_wp2_with (first | ((with_reducible refine xaR (b := .append) (xs := #[.tmp 127, .tmp 132]) rfl ?_); (try (refine xbQ (by rfl) ?_; dsimp only)); at_builtin; refine Kd.xbZ (Kd.int .i64) (w0 := w) w.heap.size rfl (.tmp 127) (.tmp 132) 49 3 (.int .i64 0) 8 rfl Tryz.underlying49 info3 rfl (by decide) (by omega) u15 x15_7 (rd x9_40 x118_7) [.int .i64 (rd x9_40 x118_7)] (fun k_ => some k_ ≠ (.slice (some ad933) x9_40.length co52 : Value).ownBlock) (fun _ => False) rfl rfl ?aP (fun _ hk => hk.elim) ?aF ?aO ?aB ?aS ?aL ?_; (case aP => exact rfl); (case aB => exact bB); (case aF => exact (fun k_ hk => Kd.fresh' (Kd.R_lt (bR HO_9)) k_ hk)); (case aO => exact (bR HO_15)); (case aS => exact (xbG bB)); (case aL => have := LMc66.out; omega); intro v935 w67 ho hb hg hat; rw [← Ny934.out] at ho; replace HO_9 := Aside0.mk (Kd.xeD (ok := (fun _ => True)) (by (with_reducible repeat (first | apply Kd.xbJ | apply Kd.xbK | apply Kd.R_drew)); exact Kd.R_mono HO_9.out (fun _ hk => ⟨trivial, hk⟩)) hg hat); replace BK913 := Aside0.mk (xcG (g := gb913) (o := .cells #[.int .i64 a0_0, .int .i64 a0_1, .int .i64 a0_2, .int .i64 a0_3, .int .i64 a0_4, .int .i64 a0_5, .int .i64 a0_6, .int .i64 a0_7, .int .i64 a0_8, .slice A0_9 l0_9.length c0_9] 117 (0, 0)) (bk BK913) hg (Kd.R_ne HO_15.out BK913.out (by decide))); replace HB := Aside0.mk (hb); have HO936 := Aside0.mk (ho); clear HO_15; clear ho hb hg hat)))
                        go_roundg k7
                        case measure => have := HJ3.out; have := HJ10.out; have := HJ14.out; have := HJ32.out; have := HJ36.out; have := HJ40.out; have := HK7.out; omega
                        case rel => exact ⟨(y934), (wrap64 (x118_7 + 1)), eS, H', ⟨by have := HJ3.out; have := HJ10.out; have := HJ14.out; have := HJ32.out; have := HJ36.out; have := HJ40.out; have := HK7.out; omega⟩, ⟨by (with_reducible repeat (first | apply Kd.xbJ | apply Kd.xbK | apply Kd.R_drew)); exact Kd.R_mono HO_9.out (fun _ hk => hk.2)⟩, ⟨(bR HO936)⟩, ⟨(bk BK913)⟩, ⟨bB⟩⟩
                       ·
                        rw [if_neg c66] at H
                        exact absurd H (by simp)
                      ·
                       rw [if_neg c65] at H
                       exact absurd H (by simp)
                     ·
                      rw [if_neg c64] at H
                      exact absurd H (by simp)
                   ·
                    rw [if_neg c57] at H
                    have c57b0 : decide (x118_7 < (x9_40.length : Int)) = false := decide_eq_false c57
                    clear c57
                    by_cases c68 : x15_7.length < 17592186044416
                    ·
                     rw [if_pos c68] at H
                     have LMc68 := Aside0.mk c68;clear c68
                     obtain ⟨y937, hy937⟩ : ∃ y_ : List Int, y_ = (x15_7 ++ [a0_1]) := ⟨_, rfl⟩
                     replace H : (some (y937, 0)) = some (r1, r2) := by first | (rw [hy937]; with_reducible exact H) | (have H2_ := (Option.bind_some _ _).symm.trans H; rw [hy937]; with_reducible exact H2_) | (have H2_ := (Option.bind_some _ _).symm.trans H; with_reducible exact H2_) | with_reducible exact H | (rw [hy937]; exact H) | exact H
                     have Ny937 := Aside0.mk hy937;clear hy937
                     simp only [Option.some.injEq, Prod.mk.injEq] at H
                     obtain ⟨rfl, rfl⟩ := H
                     obtain ⟨_,_,_,_,_,_,_,_,_,_,_,_,_,_,_,_,_,_,_,_⟩ := blk10 BK913
                     go_wp2_with (first | ((with_reducible refine xaR (b := .append) (xs := #[.tmp 135, .tmp 138]) rfl ?_); (try (refine xbQ (by rfl) ?_; dsimp only)); at_builtin; refine Kd.xbZ (Kd.int .i64) (w0 := w) w.heap.size rfl (.tmp 135) (.tmp 138) 49 3 (.int .i64 0) 8 rfl Tryz.underlying49 info3 rfl (by decide) (by omega) u15 x15_7 a0_1 [.int .i64 a0_1] (fun k_ => some k_ ≠ (.slice Ao52 x9_40.length co52 : Value).ownBlock) (fun _ => False) rfl rfl ?aP (fun _ hk => hk.elim) ?aF ?aO ?aB ?aS ?aL ?_; (case aP => exact rfl); (case aB => exact bB); (case aF => exact (fun k_ hk => Kd.fresh' (Kd.R_lt (bR HO_9)) k_ hk)); (case aO => exact (bR HO_15)); (case aS => exact (xbG bB)); (case aL => have := LMc68.out; omega); intro v938 w70 ho hb hg hat; rw [← Ny937.out] at ho; replace HO_9 := Aside0.mk (Kd.xeD (ok := (fun _ => True)) (by (with_reducible repeat (first | apply Kd.xbJ | apply Kd.xbK | apply Kd.R_drew)); exact Kd.R_mono HO_9.out (fun _ hk => ⟨trivial, hk⟩)) hg hat); replace BK913 := Aside0.mk (xcG (g := gb913) (o := .cells #[.int .i64 a0_0, .int .i64 a0_1, .int .i64 a0_2, .int .i64 a0_3, .int .i64 a0_4, .int .i64 a0_5, .int .i64 a0_6, .int .i64 a0_7, .int .i64 a0_8, .slice A0_9 l0_9.length c0_9] 117 (0, 0)) (bk BK913) hg (Kd.R_ne HO_15.out BK913.out (by decide))); replace HB := Aside0.mk (hb); have HO939 := Aside0.mk (ho); clear HO_15; clear ho hb hg hat))
                     repeat (go_quiet (first | ((with_reducible refine xaR (b := .append) (xs := #[.tmp 135, .tmp 138]) rfl ?_); (try (refine xbQ (by rfl) ?_; dsimp only)); at_builtin; refine Kd.xbZ (Kd.int .i64) (w0 := w) w.heap.size rfl (.tmp 135) (.tmp 138) 49 3 (.int .i64 0) 8 rfl Tryz.underlying49 info3 rfl (by decide) (by omega) u15 x15_7 a0_1 [.int .i64 a0_1] (fun k_ => some k_ ≠ (.slice Ao52 x9_40.length co52 : Value).ownBlock) (fun _ => False) rfl rfl ?aP (fun _ hk => hk.elim) ?aF ?aO ?aB ?aS ?aL ?_; (case aP => exact rfl); (case aB => exact bB); (case aF => exact (fun k_ hk => Kd.fresh' (Kd.R_lt (bR HO_9)) k_ hk)); (case aO => exact (bR HO_15)); (case aS => exact (xbG bB)); (case aL => have := LMc68.out; omega); intro v938 w70 ho hb hg hat; rw [← Ny937.out] at ho; replace HO_9 := Aside0.mk (Kd.xeD (ok := (fun _ => True)) (by (with_reducible repeat (first | apply Kd.xbJ | apply Kd.xbK | apply Kd.R_drew)); exact Kd.R_mono HO_9.out (fun _ hk => ⟨trivial, hk⟩)) hg hat); replace BK913 := Aside0.mk (xcG (g := gb913) (o := .cells #[.int .i64 a0_0, .int .i64 a0_1, .int .i64 a0_2, .int .i64 a0_3, .int .i64 a0_4, .int .i64 a0_5, .int .i64 a0_6, .int .i64 a0_7, .int .i64 a0_8, .slice A0_9 l0_9.length c0_9] 117 (0, 0)) (bk BK913) hg (Kd.R_ne HO_15.out BK913.out (by decide))); replace HB := Aside0.mk (hb); have HO939 := Aside0.mk (ho); clear HO_15; clear ho hb hg hat)); try go_wp2_with (first | ((with_reducible refine xaR (b := .append) (xs := #[.tmp 135, .tmp 138]) rfl ?_); (try (refine xbQ (by rfl) ?_; dsimp only)); at_builtin; refine Kd.xbZ (Kd.int .i64) (w0 := w) w.heap.size rfl (.tmp 135) (.tmp 138) 49 3 (.int .i64 0) 8 rfl Tryz.underlying49 info3 rfl (by decide) (by omega) u15 x15_7 a0_1 [.int .i64 a0_1] (fun k_ => some k_ ≠ (.slice Ao52 x9_40.length co52 : Value).ownBlock) (fun _ => False) rfl rfl ?aP (fun _ hk => hk.elim) ?aF ?aO ?aB ?aS ?aL ?_; (case aP => exact rfl); (case aB => exact bB); (case aF => exact (fun k_ hk => Kd.fresh' (Kd.R_lt (bR HO_9)) k_ hk)); (case aO => exact (bR HO_15)); (case aS => exact (xbG bB)); (case aL => have := LMc68.out; omega); intro v938 w70 ho hb hg hat; rw [← Ny937.out] at ho; replace HO_9 := Aside0.mk (Kd.xeD (ok := (fun _ => True)) (by (with_reducible repeat (first | apply Kd.xbJ | apply Kd.xbK | apply Kd.R_drew)); exact Kd.R_mono HO_9.out (fun _ hk => ⟨trivial, hk⟩)) hg hat); replace BK913 := Aside0.mk (xcG (g := gb913) (o := .cells #[.int .i64 a0_0, .int .i64 a0_1, .int .i64 a0_2, .int .i64 a0_3, .int .i64 a0_4, .int .i64 a0_5, .int .i64 a0_6, .int .i64 a0_7, .int .i64 a0_8, .slice A0_9 l0_9.length c0_9] 117 (0, 0)) (bk BK913) hg (Kd.R_ne HO_15.out BK913.out (by decide))); replace HB := Aside0.mk (hb); have HO939 := Aside0.mk (ho); clear HO_15; clear ho hb hg hat)))
                     rw [Go.Exit.noGoto_ret]
                     go_ret2
                     exact ⟨_, by first | rfl | (simp [xbD, xbC] <;> rfl) | (simp only [← hji48]; first | rfl | (simp [xbD, xbC] <;> rfl)) | (simp [*, xbD, xbC] <;> rfl), by (with_reducible repeat (first | apply Kd.xbJ | apply Kd.xbK | apply Kd.R_drew)); exact Kd.R_mono HO939.out (fun _ hk => trivial), bB⟩
                    ·
                     rw [if_neg c68] at H
                     exact absurd H (by simp)
                ·
                 rw [if_neg c51] at H
                 exact absurd H (by simp)
               ·
                rw [if_neg c50] at H
                exact absurd H (by simp)
              ·
               rw [if_neg c49] at H
               exact absurd H (by simp)
 ·
  rw [if_neg c3] at H
  have c3b0 : (t914 == 0) = false := beq_eq_false_iff_ne.mpr c3
  have c3b1 : (t914 != 0) = true := bne_iff_ne.mpr c3
  simp only [Option.some.injEq, Prod.mk.injEq] at H
  obtain ⟨rfl, rfl⟩ := H
  go_enter Tryz.func162, Tryz.ntmps162
  go_wp2_with (first | ((with_reducible refine xaU (N := 1) rfl ?_); (try (refine xbQ (by rfl) ?_; dsimp only)); refine xaT ?hg (N := 1) ?hd (cs := #[.int .i64 a0_0, .int .i64 a0_1, .int .i64 a0_2, .int .i64 a0_3, .int .i64 a0_4, .int .i64 a0_5, .int .i64 a0_6, .int .i64 a0_7, .int .i64 a0_8, .slice A0_9 l0_9.length c0_9]) (t := 117) ?hr ?_; (case hd => rfl); (case hg => rfl); (case hr => first | (go_simp; done) | (go_simp; rfl)); intro gb913 hg w71 hbox hb; have BK913 := Aside0.mk (hbox); have GW913 := bG hg; have GE913 := bG hg; replace HB := bS hb; clear hb hbox hg; obtain ⟨hcz72_0,hcz72_1,hcz72_2,hcz72_3,hcz72_4,hcz72_5,hcz72_6,hcz72_7,hcz72_8,hcz72_9,hfz72_0,hfz72_1,hfz72_2,hfz72_3,hfz72_4,hfz72_5,hfz72_6,hfz72_7,hfz72_8,hfz72_9⟩ := blk10 BK913) | (go_at_call 172; (with_reducible refine (xaP.calls k a0_0 a0_1 a0_2 a0_3 a0_4 a0_5 a0_6 a0_7 a0_8 _ _ l0_9 t914 _ ?side1 ?side2 A2.out).mono ?_); (case side1 => exact sC HR0_9); (case side2 => exact HC0_9.out); rintro e w73 ⟨rfl, hb⟩; replace BK913 := bK BK913 hb; replace HB := bS hb; (try clear hb); (try clear hb2); (try clear hk); (try clear hi)))
  go_step3
  go_wp2_with (first | ((with_reducible refine xaU (N := 1) rfl ?_); (try (refine xbQ (by rfl) ?_; dsimp only)); refine xaT ?hg (N := 1) ?hd (cs := #[.int .i64 a0_0, .int .i64 a0_1, .int .i64 a0_2, .int .i64 a0_3, .int .i64 a0_4, .int .i64 a0_5, .int .i64 a0_6, .int .i64 a0_7, .int .i64 a0_8, .slice A0_9 l0_9.length c0_9]) (t := 117) ?hr ?_; (case hd => rfl); (case hg => rfl); (case hr => first | (go_simp; done) | (go_simp; rfl)); intro gb913 hg w71 hbox hb; have BK913 := Aside0.mk (hbox); have GW913 := bG hg; have GE913 := bG hg; replace HB := bS hb; clear hb hbox hg; obtain ⟨hcz72_0,hcz72_1,hcz72_2,hcz72_3,hcz72_4,hcz72_5,hcz72_6,hcz72_7,hcz72_8,hcz72_9,hfz72_0,hfz72_1,hfz72_2,hfz72_3,hfz72_4,hfz72_5,hfz72_6,hfz72_7,hfz72_8,hfz72_9⟩ := blk10 BK913) | (go_at_call 172; (with_reducible refine (xaP.calls k a0_0 a0_1 a0_2 a0_3 a0_4 a0_5 a0_6 a0_7 a0_8 _ _ l0_9 t914 _ ?side1 ?side2 A2.out).mono ?_); (case side1 => exact sC HR0_9); (case side2 => exact HC0_9.out); rintro e w73 ⟨rfl, hb⟩; replace BK913 := bK BK913 hb; replace HB := bS hb; (try clear hb); (try clear hb2); (try clear hk); (try clear hi)))
  repeat (go_quiet (first | ((with_reducible refine xaU (N := 1) rfl ?_); (try (refine xbQ (by rfl) ?_; dsimp only)); refine xaT ?hg (N := 1) ?hd (cs := #[.int .i64 a0_0, .int .i64 a0_1, .int .i64 a0_2, .int .i64 a0_3, .int .i64 a0_4, .int .i64 a0_5, .int .i64 a0_6, .int .i64 a0_7, .int .i64 a0_8, .slice A0_9 l0_9.length c0_9]) (t := 117) ?hr ?_; (case hd => rfl); (case hg => rfl); (case hr => first | (go_simp; done) | (go_simp; rfl)); intro gb913 hg w71 hbox hb; have BK913 := Aside0.mk (hbox); have GW913 := bG hg; have GE913 := bG hg; replace HB := bS hb; clear hb hbox hg; obtain ⟨hcz72_0,hcz72_1,hcz72_2,hcz72_3,hcz72_4,hcz72_5,hcz72_6,hcz72_7,hcz72_8,hcz72_9,hfz72_0,hfz72_1,hfz72_2,hfz72_3,hfz72_4,hfz72_5,hfz72_6,hfz72_7,hfz72_8,hfz72_9⟩ := blk10 BK913) | (go_at_call 172; (with_reducible refine (xaP.calls k a0_0 a0_1 a0_2 a0_3 a0_4 a0_5 a0_6 a0_7 a0_8 _ _ l0_9 t914 _ ?side1 ?side2 A2.out).mono ?_); (case side1 => exact sC HR0_9); (case side2 => exact HC0_9.out); rintro e w73 ⟨rfl, hb⟩; replace BK913 := bK BK913 hb; replace HB := bS hb; (try clear hb); (try clear hb2); (try clear hk); (try clear hi))); try go_wp2_with (first | ((with_reducible refine xaU (N := 1) rfl ?_); (try (refine xbQ (by rfl) ?_; dsimp only)); refine xaT ?hg (N := 1) ?hd (cs := #[.int .i64 a0_0, .int .i64 a0_1, .int .i64 a0_2, .int .i64 a0_3, .int .i64 a0_4, .int .i64 a0_5, .int .i64 a0_6, .int .i64 a0_7, .int .i64 a0_8, .slice A0_9 l0_9.length c0_9]) (t := 117) ?hr ?_; (case hd => rfl); (case hg => rfl); (case hr => first | (go_simp; done) | (go_simp; rfl)); intro gb913 hg w71 hbox hb; have BK913 := Aside0.mk (hbox); have GW913 := bG hg; have GE913 := bG hg; replace HB := bS hb; clear hb hbox hg; obtain ⟨hcz72_0,hcz72_1,hcz72_2,hcz72_3,hcz72_4,hcz72_5,hcz72_6,hcz72_7,hcz72_8,hcz72_9,hfz72_0,hfz72_1,hfz72_2,hfz72_3,hfz72_4,hfz72_5,hfz72_6,hfz72_7,hfz72_8,hfz72_9⟩ := blk10 BK913) | (go_at_call 172; (with_reducible refine (xaP.calls k a0_0 a0_1 a0_2 a0_3 a0_4 a0_5 a0_6 a0_7 a0_8 _ _ l0_9 t914 _ ?side1 ?side2 A2.out).mono ?_); (case side1 => exact sC HR0_9); (case side2 => exact HC0_9.out); rintro e w73 ⟨rfl, hb⟩; replace BK913 := bK BK913 hb; replace HB := bS hb; (try clear hb); (try clear hb2); (try clear hk); (try clear hi))))
  rw [Go.Exit.noGoto_ret]
  go_ret2
  exact ⟨_, eW, by first | exact Kd.R_nil _ _ _ _ _ | exact Kd.N_nil _ _ _ _ _ | exact Kd.V_nil _ _ _ _ _ | exact Kd.Q_nil _ _ _ _ _ | exact Kd.S_nil _ _ _ _ _, bB⟩
end Go.Proofs.YtkabcgmegljebaaGreatDoor.Q
