/- Contracts and facts of functions of the program (calendar, dates and their documents), joined in one text by a program of this session. No condition but what each theorem states. -/
import Derived.Test.YtoncignjcgjhhaaLGA
import Derived.Test.YtoncignjcgjhhaaLGG
import Derived.Test.YtoncignjcgjhhaaLGF
import Derived.Test.YtoncignjcgjhhaaLGE
set_option linter.unusedVariables false
set_option linter.unusedSimpArgs false
namespace Go.Proofs.Ytoncignjcgjhhaa.Q
open Go.RowKit Go.Proofs.YtoncignjcgjhhaaW.PrintWords Go.Proofs.YtoncignjcgjhhaaW.PrintLast Go.Proofs.YtoncignjcgjhhaaW.PrintMore
attribute [local go_sem] max2_int min2_int max_two min_two max_three min_three max_four min_four   -- for this text's walks alone
def sched_Periods.l0 : Nat → List Int → List (S81) → Int → Int → Int → Int → Int → Int → Int → Int → Int → Int → Int → List (S63) → Option ((List (S81)) × Int)
  | 0, _, _, _, _, _, _, _, _, _, _, _, _, _, _ => none
  | k + 1, x4, x6, x23, x24, x778000, x778001, x778002, x778003, x778004, x778005, x778006, x778007, x778008, x778009 => if x24 < x23 then (if 0 ≤ x24 then (if x24 < (x4.length : Int) then (if 0 ≤ (wrap64 (x24 + 1)) then (if (wrap64 (x24 + 1)) < (x4.length : Int) then ((cal_Adjust.f x778008 x778009 (rd x4 x24) x778006).bind fun bt788 => (if bt788.2 = 0 then ((cal_Adjust.f x778008 x778009 (rd x4 (wrap64 (x24 + 1))) x778006).bind fun bt790 => (if bt790.2 = 0 then (if x778007 > 0 then ((cal_Add.f x778008 x778009 bt790.1 x778007).bind fun bt792 => (if bt792.2 = 0 then (if x6.length < 3518437208883 then (sched_Periods.l0 k x4 (x6 ++ [(⟨rd x4 x24, rd x4 (wrap64 (x24 + 1)), bt788.1, bt790.1, bt792.1⟩ : S81)]) x23 (wrap64 (x24 + 1)) x778000 x778001 x778002 x778003 x778004 x778005 x778006 x778007 x778008 x778009) else (none)) else (some (([] : List (S81)), bt792.2)))) else (if x6.length < 3518437208883 then (sched_Periods.l0 k x4 (x6 ++ [(⟨rd x4 x24, rd x4 (wrap64 (x24 + 1)), bt788.1, bt790.1, bt790.1⟩ : S81)]) x23 (wrap64 (x24 + 1)) x778000 x778001 x778002 x778003 x778004 x778005 x778006 x778007 x778008 x778009) else (none))) else (some (([] : List (S81)), bt790.2)))) else (some (([] : List (S81)), bt788.2)))) else (none)) else (none)) else (none)) else (none)) else (some (x6, 0))
def sched_Periods.f (k : Nat) (a0_0 a0_1 a0_2 a0_3 a0_4 a0_5 a0_6 a0_7 a0_8 : Int) (l0_9 : List (S63)) : Option ((List (S81)) × Int) := (sched_Dates.f k a0_0 a0_1 a0_2 a0_3 a0_4 a0_5 a0_6 a0_7 a0_8 l0_9).bind fun bt778 => (if bt778.2 = 0 then (if 0 ≤ (wrap64 ((bt778.1.length : Int) - 1)) then (if (wrap64 ((bt778.1.length : Int) - 1) : Int).toNat ≤ 7036874417766 then (sched_Periods.l0 k bt778.1 (List.replicate 0 z81) (wrap64 ((bt778.1.length : Int) - 1)) 0 a0_0 a0_1 a0_2 a0_3 a0_4 a0_5 a0_6 a0_7 a0_8 l0_9) else (none)) else (none)) else (some (([] : List (S81)), bt778.2)))
theorem sched_Periods.mono_l : ∀ k, (∀ y0 y1 y2 y3 y4 y5 y6 y7 y8 y9 y10 y11 y12 y13, LeO (sched_Periods.l0 k y0 y1 y2 y3 y4 y5 y6 y7 y8 y9 y10 y11 y12 y13) (sched_Periods.l0 (k + 1) y0 y1 y2 y3 y4 y5 y6 y7 y8 y9 y10 y11 y12 y13))
 | 0 => fun _ _ _ _ _ _ _ _ _ _ _ _ _ _ r h => by simp [sched_Periods.l0] at h
 | k + 1 => by
  have ih0 := sched_Periods.mono_l k
  ·
   intro y0 y1 y2 y3 y4 y5 y6 y7 y8 y9 y10 y11 y12 y13
   unfold sched_Periods.l0
   have m0 := @sched_Dates.mono
   exact mL
theorem sched_Periods.mono : ∀ a0 a1 a2 a3 a4 a5 a6 a7 a8 a9 k, LeO (sched_Periods.f k a0 a1 a2 a3 a4 a5 a6 a7 a8 a9) (sched_Periods.f (k + 1) a0 a1 a2 a3 a4 a5 a6 a7 a8 a9) := by
 intro a0 a1 a2 a3 a4 a5 a6 a7 a8 a9 k
 have ih0 := sched_Periods.mono_l k
 unfold sched_Periods.f
 have m0 := @sched_Dates.mono
 exact mL
def sched_Periods.T8 : Bool × List (List Nat × List Nat) := (true, [([], []), ([], []), ([0, 1], [0, 1]), ([2], [2]), ([], []), ([], []), ([5], [5]), ([4, 6], [4, 6]), ([7], [7]), ([3, 8], [3, 8]), ([], []), ([10, 9, 0, 1, 2, 3, 4, 5, 6, 7, 8, 9, 10], [9, 10])])
def sched_Periods.B8 : List Nat := [0, 0, 3, 7, 0, 0, 32, 112, 240, 511, 0, 2047]
theorem sched_Periods.tab8 : rtab .any (opsOf Try.f54 8) = sched_Periods.T8 := by kernel_rfl
theorem sched_Periods.bits8 : waitsOk sched_Periods.T8.2 sched_Periods.B8 = true := by kernel_rfl
set_option maxHeartbeats 8000000 in
set_option maxRecDepth 100000 in
theorem sched_Periods.calls (k : Nat) (a0_0 a0_1 a0_2 a0_3 a0_4 a0_5 a0_6 a0_7 a0_8 : Int) (A0_9 : Option Addr) (c0_9 : Nat) (l0_9 : List (S63)) (r1 : List (S81)) (r2 : Int) (w : World) (hr0_9 : Kd.C k63 w A0_9 l0_9.length l0_9) (hc0_9 : l0_9.length ≤ c0_9) (h : sched_Periods.f k a0_0 a0_1 a0_2 a0_3 a0_4 a0_5 a0_6 a0_7 a0_8 l0_9 = some (r1, r2)) :
  Calls Try.prog 54 #[.agg #[.int .i64 a0_0, .int .i64 a0_1, .int .i64 a0_2, .int .i64 a0_3, .int .i64 a0_4, .int .i64 a0_5, .int .i64 a0_6, .int .i64 a0_7, .int .i64 a0_8, .slice A0_9 l0_9.length c0_9]] w fun e w' => ∃ v0_ : Value, e = .returned (.tuple #[v0_, .int .i64 r2]) ∧ Kd.R k81 81 w' w.heap.size (fun _ => True) v0_ r1 ∧ Below w.heap.size w w' := by
 have hu66 := Try.underlying66;have hu81 := Try.underlying81;have hu24 := Try.underlying24;have HR0_9 := Aside0.mk hr0_9;have HC0_9 := Aside0.mk hc0_9;clear hr0_9 hc0_9
 have HB := Aside0.mk (Below.refl w.heap.size w)
 have H : ((sched_Dates.f k a0_0 a0_1 a0_2 a0_3 a0_4 a0_5 a0_6 a0_7 a0_8 l0_9).bind fun bt778 => (if bt778.2 = 0 then (if 0 ≤ (wrap64 ((bt778.1.length : Int) - 1)) then (if (wrap64 ((bt778.1.length : Int) - 1) : Int).toNat ≤ 7036874417766 then (sched_Periods.l0 k bt778.1 (List.replicate 0 z81) (wrap64 ((bt778.1.length : Int) - 1)) 0 a0_0 a0_1 a0_2 a0_3 a0_4 a0_5 a0_6 a0_7 a0_8 l0_9) else (none)) else (none)) else (some (([] : List (S81)), bt778.2)))) = some (r1, r2) := h
 clear h;replace H := Option.bind_eq_some_iff.mp H
 obtain ⟨⟨t778, t781⟩, A20, H⟩ := H
 replace H : (if t781 = 0 then (if 0 ≤ (wrap64 ((t778.length : Int) - 1)) then (if (wrap64 ((t778.length : Int) - 1) : Int).toNat ≤ 7036874417766 then (sched_Periods.l0 k t778 (List.replicate 0 z81) (wrap64 ((t778.length : Int) - 1)) 0 a0_0 a0_1 a0_2 a0_3 a0_4 a0_5 a0_6 a0_7 a0_8 l0_9) else (none)) else (none)) else (some (([] : List (S81)), t781))) = some (r1, r2) := H
 have A2 := Aside0.mk A20;clear A20
 by_cases c3 : t781 = 0
 ·
  rw [if_pos c3] at H
  have c3b0 : (t781 == 0) = true := beq_iff_eq.mpr c3
  have c3b1 : (t781 != 0) = false := bne_eq_false_iff_eq.mpr c3
  clear c3
  obtain ⟨ji4, hji4⟩ : ∃ j_ : Int, (wrap64 ((t778.length : Int) - 1)) = j_ := ⟨_, rfl⟩
  replace H : (if 0 ≤ (ji4) then (if (ji4 : Int).toNat ≤ 7036874417766 then (sched_Periods.l0 k t778 (List.replicate 0 z81) ji4 0 a0_0 a0_1 a0_2 a0_3 a0_4 a0_5 a0_6 a0_7 a0_8 l0_9) else (none)) else (none)) = some (r1, r2) := by first | (rw [hji4] at H; exact H) | (simp only [hji4] at H ⊢; exact H)
  (try rw [hji4] at A2)
  have hji4w : (IntKind.i64.wrap ((t778.length : Int) - 1)) = ji4 := (i64_w _).trans hji4
  by_cases c5 : 0 ≤ (ji4)
  ·
   rw [if_pos c5] at H
   have c5b0 := eq_true c5
   have c5b1 : decide (0 ≤ (ji4)) = true := decide_eq_true c5
   clear c5
   by_cases c6 : (ji4 : Int).toNat ≤ 7036874417766
   ·
    rw [if_pos c6] at H
    have c6b0 := eq_true c6
    have c6b1 : decide ((ji4 : Int).toNat ≤ 7036874417766) = true := decide_eq_true c6
    clear c6
    obtain ⟨y782, hy782⟩ : ∃ y_ : List (S81), y_ = (List.replicate 0 z81) := ⟨_, rfl⟩
    replace H : (sched_Periods.l0 k t778 y782 ji4 0 a0_0 a0_1 a0_2 a0_3 a0_4 a0_5 a0_6 a0_7 a0_8 l0_9) = some (r1, r2) := by first | (rw [hy782]; with_reducible exact H) | (have H2_ := (Option.bind_some _ _).symm.trans H; rw [hy782]; with_reducible exact H2_) | (have H2_ := (Option.bind_some _ _).symm.trans H; with_reducible exact H2_) | with_reducible exact H | (rw [hy782]; exact H) | exact H
    have Ny782 := Aside0.mk hy782;clear hy782;have H' := Aside0.mk H;clear H
    go_enter Try.func54, Try.ntmps54
    go_wp2_with (first | ((with_reducible refine gate_dst (N := 1) rfl ?_); refine box_event ?hg (N := 1) ?hd (cs := #[.int .i64 a0_0, .int .i64 a0_1, .int .i64 a0_2, .int .i64 a0_3, .int .i64 a0_4, .int .i64 a0_5, .int .i64 a0_6, .int .i64 a0_7, .int .i64 a0_8, .slice A0_9 l0_9.length c0_9]) (t := 66) ?hr ?_; (case hd => rfl); (case hg => rfl); (case hr => first | (go_simp; done) | (go_simp; rfl)); intro gb777 hg w7 hbox hb; have BK777 := Aside0.mk (hbox); have GW777 := bG hg; have GE777 := bG hg; replace HB := bS hb; clear hb hbox hg; obtain ⟨_,_,_,_,_,_,_,_,_,_,_,_,_,_,_,_,_,_,_,_⟩ := blk10 BK777) | ((with_reducible refine gG 50 ?_); refine goA (some 11) Try.func50 #[.agg #[.int .i64 a0_0, .int .i64 a0_1, .int .i64 a0_2, .int .i64 a0_3, .int .i64 a0_4, .int .i64 a0_5, .int .i64 a0_6, .int .i64 a0_7, .int .i64 a0_8, .slice A0_9 l0_9.length c0_9]] ?_; (with_reducible refine (sched_Dates.calls k a0_0 a0_1 a0_2 a0_3 a0_4 a0_5 a0_6 a0_7 a0_8 _ _ l0_9 t778 t781 _ ?side1 ?side2 A2.out).mono ?_); (case side1 => exact sC HR0_9); (case side2 => exact HC0_9.out); rintro e w9 ⟨v779, rfl, ho0, hb⟩; refine ⟨_, rfl, ?_⟩; have HO780 := Aside0.mk (Kd.R_lower ho0 (below_size bB)); replace BK777 := bK BK777 hb; replace HB := bS hb; (try clear hb); (try clear hb2); (try clear hk); (try clear hi); (try clear ho0); obtain ⟨Ao10, co10, eo10⟩ := Kd.R_slice HO780.out; subst eo10) | ((with_reducible refine gate_dst (N := 20) rfl ?_); refine Kd.R_make0 k81 _ 81 rfl (N := 20) rfl 74 _ _ rfl ji4 rfl rfl Try.underlying74 (.agg #[(.int .i64 0), (.int .i64 0), (.int .i64 0), (.int .i64 0), (.int .i64 0)]) 40 info81 rfl (by decide) (by omega) z81 (ok := fun _ => True) (okp := fun _ => True) (k81_mkM _ _ _ z81 ) (fun _ hk => hk) trivial (of_decide_eq_true tA) (Nat.le_trans (Nat.mul_le_mul_right _ (of_decide_eq_true tA : ji4.toNat ≤ 7036874417766)) (by omega)) (Below.refl _ _) (Nat.le_refl _) ?_; intro v783 w11 ho12 hb hg_ hnew_; clear hg_ hnew_; (first | rw [← Ny782.out] at ho12 | (simp only [Int.reduceToNat] at ho12; rw [← Ny782.out] at ho12)); replace HO780 := Aside0.mk (Kd.R_below (bR HO780) hb); have HO784 := Aside0.mk (Kd.R_lower ho12 (below_size bB)); replace BK777 := bK BK777 hb; replace HB := bS hb; clear hb ho12))
    go_loopg [6, 24] k (fun kq v6 v24 w' => ∃ (x6_1 : List (S81)) (x24_1 : Int), v24 = .int .i64 x24_1 ∧ Aside0 (sched_Periods.l0 kq t778 x6_1 ji4 x24_1 a0_0 a0_1 a0_2 a0_3 a0_4 a0_5 a0_6 a0_7 a0_8 l0_9 = some (r1, r2)) ∧ Aside0 (kq ≤ k) ∧ Aside0 (Kd.R (Kd.int .i64) 3 w' w.heap.size (fun _ => True) (.slice Ao10 t778.length co10) t778) ∧ Aside0 (Kd.R k81 81 w' w.heap.size (fun _ => True) v6 x6_1) ∧ Aside0 (w'.heap[gb777]? = some (.cells #[.int .i64 a0_0, .int .i64 a0_1, .int .i64 a0_2, .int .i64 a0_3, .int .i64 a0_4, .int .i64 a0_5, .int .i64 a0_6, .int .i64 a0_7, .int .i64 a0_8, (.slice A0_9 l0_9.length c0_9)] 66 (0, 0))) ∧ Aside0 (Below w.heap.size w w'))
    case atStart => exact ⟨(y782), (0), eS, H', ⟨Nat.le_refl _⟩, ⟨(bR HO780)⟩, ⟨(bR HO784)⟩, ⟨(bk BK777)⟩, ⟨bB⟩⟩
    case round =>
     clear H'
     obtain ⟨x6_1, x24_1, rfl, HA, HK1, HO_4, HO_6, BK777, HB⟩ := hrel
     cases gk with
     | zero => exact absurd HA.out (by simp [sched_Periods.l0])
     | succ k1 =>
      have H := HA.out;clear HA
      simp only [sched_Periods.l0] at H
      by_cases c13 : x24_1 < ji4
      ·
       rw [if_pos c13] at H
       have c13b0 : decide (x24_1 < ji4) = true := decide_eq_true c13
       clear c13
       by_cases c14 : 0 ≤ x24_1
       ·
        rw [if_pos c14] at H
        have c14b0 : decide (0 ≤ x24_1) = true := decide_eq_true c14
        clear c14
        by_cases c15 : x24_1 < (t778.length : Int)
        ·
         rw [if_pos c15] at H
         have c15b0 : decide (x24_1 < (t778.length : Int)) = true := decide_eq_true c15
         clear c15
         obtain ⟨ji16, hji16⟩ : ∃ j_ : Int, (wrap64 (x24_1 + 1)) = j_ := ⟨_, rfl⟩
         replace H : (if 0 ≤ (ji16) then (if (ji16) < (t778.length : Int) then ((cal_Adjust.f a0_8 l0_9 (rd t778 x24_1) a0_6).bind fun bt788 => (if bt788.2 = 0 then ((cal_Adjust.f a0_8 l0_9 (rd t778 (ji16)) a0_6).bind fun bt790 => (if bt790.2 = 0 then (if a0_7 > 0 then ((cal_Add.f a0_8 l0_9 bt790.1 a0_7).bind fun bt792 => (if bt792.2 = 0 then (if x6_1.length < 3518437208883 then (sched_Periods.l0 k1 t778 (x6_1 ++ [(⟨rd t778 x24_1, rd t778 (ji16), bt788.1, bt790.1, bt792.1⟩ : S81)]) ji4 ji16 a0_0 a0_1 a0_2 a0_3 a0_4 a0_5 a0_6 a0_7 a0_8 l0_9) else (none)) else (some (([] : List (S81)), bt792.2)))) else (if x6_1.length < 3518437208883 then (sched_Periods.l0 k1 t778 (x6_1 ++ [(⟨rd t778 x24_1, rd t778 (ji16), bt788.1, bt790.1, bt790.1⟩ : S81)]) ji4 ji16 a0_0 a0_1 a0_2 a0_3 a0_4 a0_5 a0_6 a0_7 a0_8 l0_9) else (none))) else (some (([] : List (S81)), bt790.2)))) else (some (([] : List (S81)), bt788.2)))) else (none)) else (none)) = some (r1, r2) := by first | (rw [hji16] at H; exact H) | (simp only [hji16] at H ⊢; exact H)
         have hji16w : (IntKind.i64.wrap (x24_1 + 1)) = ji16 := (i64_w _).trans hji16
         by_cases c17 : 0 ≤ (ji16)
         ·
          rw [if_pos c17] at H
          have c17b0 : decide (0 ≤ (ji16)) = true := decide_eq_true c17
          clear c17
          by_cases c18 : (ji16) < (t778.length : Int)
          ·
           rw [if_pos c18] at H
           have c18b0 : decide ((ji16) < (t778.length : Int)) = true := decide_eq_true c18
           clear c18;replace H := Option.bind_eq_some_iff.mp H
           obtain ⟨⟨t788, t789⟩, A190, H⟩ := H
           replace H : (if t789 = 0 then ((cal_Adjust.f a0_8 l0_9 (rd t778 (ji16)) a0_6).bind fun bt790 => (if bt790.2 = 0 then (if a0_7 > 0 then ((cal_Add.f a0_8 l0_9 bt790.1 a0_7).bind fun bt792 => (if bt792.2 = 0 then (if x6_1.length < 3518437208883 then (sched_Periods.l0 k1 t778 (x6_1 ++ [(⟨rd t778 x24_1, rd t778 (ji16), t788, bt790.1, bt792.1⟩ : S81)]) ji4 ji16 a0_0 a0_1 a0_2 a0_3 a0_4 a0_5 a0_6 a0_7 a0_8 l0_9) else (none)) else (some (([] : List (S81)), bt792.2)))) else (if x6_1.length < 3518437208883 then (sched_Periods.l0 k1 t778 (x6_1 ++ [(⟨rd t778 x24_1, rd t778 (ji16), t788, bt790.1, bt790.1⟩ : S81)]) ji4 ji16 a0_0 a0_1 a0_2 a0_3 a0_4 a0_5 a0_6 a0_7 a0_8 l0_9) else (none))) else (some (([] : List (S81)), bt790.2)))) else (some (([] : List (S81)), t789))) = some (r1, r2) := H
           have A19 := Aside0.mk A190;clear A190;have HH_ := Aside0.mk H;clear H
           try go_wp2
           replace HO_4 := Aside0.mk (Kd.R_drew HO_4.out)
           replace HO_6 := Aside0.mk (Kd.R_drew HO_6.out)
           replace BK777 := Aside0.mk (blk_drew BK777.out)
           replace HB := Aside0.mk (below_drew1 HB.out)
           have p785 : 0 ≤ (x24_1 : Int) := of_decide_eq_true tA
           have q785 : x24_1 < (t778.length : Int) := of_decide_eq_true tA
           obtain ⟨ad785, e785, hx785_0⟩ := Kd.at_int (Kd.R_reads' HO_4.out).2.2 x24_1 p785 q785
           cases e785
           replace p785 := eq_true p785;replace q785 := eq_true q785
           have p786 : 0 ≤ ((ji16) : Int) := of_decide_eq_true tA
           have q786 : (ji16) < (t778.length : Int) := of_decide_eq_true tA
           obtain ⟨ad786, e786, hx786_0⟩ := Kd.at_int (Kd.R_reads' HO_4.out).2.2 (ji16) p786 q786
           obtain rfl : ad785 = ad786 := (by injection e786)
           replace p786 := eq_true p786;replace q786 := eq_true q786
           refine start_ (n := 12) (S := fun w' => w'.cell? (ad785.add (x24_1).toNat) = some (.int .i64 (rd t778 x24_1)) ∧ w'.cell? (ad785.add ((ji16)).toNat) = some (.int .i64 (rd t778 (ji16)))) (ds := []) #[false, false, false, false, false, false, false, false, false, false, false, false] (by kernel_rfl) rfl rfl ⟨hx785_0, hx786_0⟩ (fun hHeld => ?_); refine with_tabW sched_Periods.tab8 sched_Periods.bits8 (fun HT_ HW_ => ?_)
           generalize wr.drew = w27 at HO_4 HO_6 BK777 HB hx785_0 hx786_0 hHeld ⊢
           refine pure_ (i := 0) (N := some 27) (v := ?_) (a' := ?_) #[true, false, false, false, false, false, false, false, false, false, false, false] rfl rfl (any_of HT_.out (by kernel_rfl)) (fun _ _ _ h => h) (Or.inl ⟨by rfl, ?_⟩) ?_ ?_
           rotate_left
           ·
            intro w'
            go_simp
            with_reducible rfl
           rotate_left
           ·
            simp only [Act.put, List.setIfInBounds_toArray, List.set_cons_zero, List.set_cons_succ, i64_w, i32_w]
            rfl
           refine pure_ (i := 1) (N := some 28) (v := ?_) (a' := ?_) #[true, true, false, false, false, false, false, false, false, false, false, false] rfl rfl (any_of HT_.out (by kernel_rfl)) (fun _ _ _ h => h) (Or.inl ⟨by rfl, ?_⟩) ?_ ?_
           rotate_left
           ·
            intro w'
            go_simp
            with_reducible rfl
           rotate_left
           ·
            simp only [Act.put, List.setIfInBounds_toArray, List.set_cons_zero, List.set_cons_succ, i64_w, i32_w]
            rfl
           refine pure_ (i := 2) (N := some 29) (v := ?_) (a' := ?_) #[true, true, true, false, false, false, false, false, false, false, false, false] rfl rfl (any_of HT_.out (by kernel_rfl)) (fun _ _ _ h => h) (Or.inl ⟨by rfl, ?_⟩) ?_ ?_
           rotate_left
           ·
            intro w'
            go_simp
            with_reducible rfl
           rotate_left
           ·
            simp only [Act.put, List.setIfInBounds_toArray, List.set_cons_zero, List.set_cons_succ, i64_w, i32_w]
            rfl
           refine pure_ (i := 4) (N := some 31) (v := ?_) (a' := ?_) #[true, true, true, false, true, false, false, false, false, false, false, false] rfl rfl (any_of HT_.out (by kernel_rfl)) (fun _ _ _ h => h) (Or.inl ⟨by rfl, ?_⟩) ?_ ?_
           rotate_left
           ·
            intro w'
            go_simp
            with_reducible rfl
           rotate_left
           ·
            simp only [Act.put, List.setIfInBounds_toArray, List.set_cons_zero, List.set_cons_succ, i64_w, i32_w]
            rfl
           refine pure_ (i := 5) (N := some 32) (v := ?_) (a' := ?_) #[true, true, true, false, true, true, false, false, false, false, false, false] rfl rfl (any_of HT_.out (by kernel_rfl)) (fun _ _ _ h => h) (Or.inl ⟨by rfl, ?_⟩) ?_ ?_
           rotate_left
           ·
            intro w'
            go_simp
            with_reducible rfl
           rotate_left
           ·
            simp only [Act.put, List.setIfInBounds_toArray, List.set_cons_zero, List.set_cons_succ, i64_w, i32_w]
            rfl
           refine pure_ (i := 6) (N := some 33) (v := ?_) (a' := ?_) #[true, true, true, false, true, true, true, false, false, false, false, false] rfl rfl (any_of HT_.out (by kernel_rfl)) (fun _ _ _ h => h) (Or.inl ⟨by rfl, ?_⟩) ?_ ?_
           rotate_left
           ·
            intro w'
            go_simp
            with_reducible rfl
           rotate_left
           ·
            simp only [Act.put, List.setIfInBounds_toArray, List.set_cons_zero, List.set_cons_succ, i64_w, i32_w]
            rfl
           refine pure_ (i := 7) (N := some 34) (v := ?_) (a' := ?_) #[true, true, true, false, true, true, true, true, false, false, false, false] rfl rfl (any_of HT_.out (by kernel_rfl)) (fun _ _ _ h => h) (Or.inl ⟨by rfl, ?_⟩) ?_ ?_
           rotate_left
           ·
            intro w'
            go_simp
            with_reducible rfl
           rotate_left
           ·
            simp only [Act.put, List.setIfInBounds_toArray, List.set_cons_zero, List.set_cons_succ, i64_w, i32_w]
            rfl
           refine take_ (i := 3) (N := some 30) (v := ?_) (a' := ?_) #[true, true, true, true, true, true, true, true, false, false, false, false] rfl rfl (take_ofW HT_.out HW_.out (by kernel_rfl)) (fun _ _ _ h => h) (Or.inl ⟨by rfl, ?_⟩) hHeld ?_ ?_
           rotate_left
           ·
            rintro w' ⟨s0, s1⟩
            go_simp
            with_reducible rfl
           rotate_left
           ·
            simp only [Act.put, List.setIfInBounds_toArray, List.set_cons_zero, List.set_cons_succ, i64_w, i32_w]
            rfl
           refine take_ (i := 8) (N := some 35) (v := ?_) (a' := ?_) #[true, true, true, true, true, true, true, true, true, false, false, false] rfl rfl (take_ofW HT_.out HW_.out (by kernel_rfl)) (fun _ _ _ h => h) (Or.inl ⟨by rfl, ?_⟩) hHeld ?_ ?_
           rotate_left
           ·
            rintro w' ⟨s0, s1⟩
            go_simp
            with_reducible rfl
           rotate_left
           ·
            simp only [Act.put, List.setIfInBounds_toArray, List.set_cons_zero, List.set_cons_succ, i64_w, i32_w]
            rfl
           refine pure_ (i := 9) (N := some 36) (v := ?_) (a' := ?_) #[true, true, true, true, true, true, true, true, true, true, false, false] rfl rfl (any_of HT_.out (by kernel_rfl)) (fun _ _ _ h => h) (Or.inl ⟨by rfl, ?_⟩) ?_ ?_
           rotate_left
           ·
            intro w'
            go_simp
            with_reducible rfl
           rotate_left
           ·
            simp only [Act.put, List.setIfInBounds_toArray, List.set_cons_zero, List.set_cons_succ, i64_w, i32_w]
            rfl
           refine one_ (i := 10) (N := some 8) #[true, true, true, true, true, true, true, true, true, true, true, false] rfl rfl (one_of HT_.out (by kernel_rfl)) (by decide) (fun K hK => ?_)
           refine box_step ?hg (N := 8) ?hd (cs := #[.int .i64 0, .int .i64 0, .int .i64 0, .int .i64 0, .int .i64 0]) (t := 81) ?hr ?_; (case hd => rfl); (case hg => rfl); (case hr => first | (go_simp; done) | (go_simp; rfl))
           intro gb787 hg w28 hbox hb
           have HS0_ := (hb.cell (World.block_lt_of_cell? _ _ (hHeld.1))).trans (hHeld.1)
           have HS1_ := (hb.cell (World.block_lt_of_cell? _ _ (hHeld.2))).trans (hHeld.2)
           replace HO_4 := Aside0.mk (Kd.R_below (bR HO_4) hb)
           replace HO_6 := Aside0.mk (Kd.R_below (Kd.R_elderB (bR HO_6) gb787 (Nat.le_of_eq hg.symm)) hb)
           have BK787 := Aside0.mk (hbox)
           have GW787 := bG hg
           have GE787 := bG hg
           replace HB := bS hb
           have NB777_787 := Aside0.mk ((by rw [hg]; exact Nat.ne_of_lt (blk_lt (g := gb777) (o := .cells #[.int .i64 a0_0, .int .i64 a0_1, .int .i64 a0_2, .int .i64 a0_3, .int .i64 a0_4, .int .i64 a0_5, .int .i64 a0_6, .int .i64 a0_7, .int .i64 a0_8, .slice A0_9 l0_9.length c0_9] 66 (0, 0)) (bk BK777)) : gb777 ≠ gb787))
           have NB787_777 := Aside0.mk ((by rw [hg]; exact Nat.ne_of_gt (blk_lt (g := gb777) (o := .cells #[.int .i64 a0_0, .int .i64 a0_1, .int .i64 a0_2, .int .i64 a0_3, .int .i64 a0_4, .int .i64 a0_5, .int .i64 a0_6, .int .i64 a0_7, .int .i64 a0_8, .slice A0_9 l0_9.length c0_9] 66 (0, 0)) (bk BK777)) : gb787 ≠ gb777))
           replace BK777 := bK BK777 hb
           clear hb hbox hg
           refine hK.out _ _ ⟨HS0_, HS1_⟩ (fun hHeld => ?_)
           clear hK K
           refine norm_ (a' := ?_) ?_ ?_
           rotate_left
           ·
            show Act.put _ (some 8) _ = _
            simp only [Act.put, List.setIfInBounds_toArray, List.set_cons_zero, List.set_cons_succ, i64_w, i32_w]
            rfl
           refine one_ (i := 11) (N := none) #[true, true, true, true, true, true, true, true, true, true, true, true] rfl rfl (one_of HT_.out (by kernel_rfl)) (by decide) (fun K hK => ?_)
           have hs29 : w28.cell? ⟨gb787, 0, none⟩ = some (.int .i64 0) := (blk_cell BK787.out 0).trans rfl
           have hfs29 := blk_frozen BK787.out 0;have hns29_0 := NB777_787.out;have hms29_0 := NB787_777.out
           have hs30 : w28.cell? ⟨gb787, 1, none⟩ = some (.int .i64 0) := (blk_cell BK787.out 1).trans rfl
           have hfs30 := blk_frozen BK787.out 1;have hns30_0 := NB777_787.out;have hms30_0 := NB787_777.out
           have hs31 : w28.cell? ⟨gb787, 2, none⟩ = some (.int .i64 0) := (blk_cell BK787.out 2).trans rfl
           have hfs31 := blk_frozen BK787.out 2;have hns31_0 := NB777_787.out;have hms31_0 := NB787_777.out
           have hs32 : w28.cell? ⟨gb787, 3, none⟩ = some (.int .i64 0) := (blk_cell BK787.out 3).trans rfl
           have hfs32 := blk_frozen BK787.out 3;have hns32_0 := NB777_787.out;have hms32_0 := NB787_777.out
           have hs33 : w28.cell? ⟨gb787, 4, none⟩ = some (.int .i64 0) := (blk_cell BK787.out 4).trans rfl
           have hfs33 := blk_frozen BK787.out 4;have hns33_0 := NB777_787.out;have hms33_0 := NB787_777.out
           refine skip_ (w1 := ?_) (by rfl) rfl ?_ ?_
           rotate_left
           ·
            go_simp
            rfl
           refine hK.out _ _ ⟨((cell_far (p := ⟨gb787, _, none⟩) (by first | exact Kd.own_blk (Kd.R_ne HO_4.out BK787.out (by decide)) | (rw [add_block]; exact Kd.own_blk (Kd.R_ne HO_4.out BK787.out (by decide))) | (show (Addr.add _ _).block ≠ _; rw [add_block]; exact Kd.own_blk (Kd.R_ne HO_4.out BK787.out (by decide))) | (dsimp only; exact Kd.own_blk (Kd.R_ne HO_4.out BK787.out (by decide)))) _).trans (((cell_far (p := ⟨gb787, _, none⟩) (by first | exact Kd.own_blk (Kd.R_ne HO_4.out BK787.out (by decide)) | (rw [add_block]; exact Kd.own_blk (Kd.R_ne HO_4.out BK787.out (by decide))) | (show (Addr.add _ _).block ≠ _; rw [add_block]; exact Kd.own_blk (Kd.R_ne HO_4.out BK787.out (by decide))) | (dsimp only; exact Kd.own_blk (Kd.R_ne HO_4.out BK787.out (by decide)))) _).trans (((cell_far (p := ⟨gb787, _, none⟩) (by first | exact Kd.own_blk (Kd.R_ne HO_4.out BK787.out (by decide)) | (rw [add_block]; exact Kd.own_blk (Kd.R_ne HO_4.out BK787.out (by decide))) | (show (Addr.add _ _).block ≠ _; rw [add_block]; exact Kd.own_blk (Kd.R_ne HO_4.out BK787.out (by decide))) | (dsimp only; exact Kd.own_blk (Kd.R_ne HO_4.out BK787.out (by decide)))) _).trans (((cell_far (p := ⟨gb787, _, none⟩) (by first | exact Kd.own_blk (Kd.R_ne HO_4.out BK787.out (by decide)) | (rw [add_block]; exact Kd.own_blk (Kd.R_ne HO_4.out BK787.out (by decide))) | (show (Addr.add _ _).block ≠ _; rw [add_block]; exact Kd.own_blk (Kd.R_ne HO_4.out BK787.out (by decide))) | (dsimp only; exact Kd.own_blk (Kd.R_ne HO_4.out BK787.out (by decide)))) _).trans (((cell_far (p := ⟨gb787, _, none⟩) (by first | exact Kd.own_blk (Kd.R_ne HO_4.out BK787.out (by decide)) | (rw [add_block]; exact Kd.own_blk (Kd.R_ne HO_4.out BK787.out (by decide))) | (show (Addr.add _ _).block ≠ _; rw [add_block]; exact Kd.own_blk (Kd.R_ne HO_4.out BK787.out (by decide))) | (dsimp only; exact Kd.own_blk (Kd.R_ne HO_4.out BK787.out (by decide)))) _).trans (hHeld.1)))))))))), ((cell_far (p := ⟨gb787, _, none⟩) (by first | exact Kd.own_blk (Kd.R_ne HO_4.out BK787.out (by decide)) | (rw [add_block]; exact Kd.own_blk (Kd.R_ne HO_4.out BK787.out (by decide))) | (show (Addr.add _ _).block ≠ _; rw [add_block]; exact Kd.own_blk (Kd.R_ne HO_4.out BK787.out (by decide))) | (dsimp only; exact Kd.own_blk (Kd.R_ne HO_4.out BK787.out (by decide)))) _).trans (((cell_far (p := ⟨gb787, _, none⟩) (by first | exact Kd.own_blk (Kd.R_ne HO_4.out BK787.out (by decide)) | (rw [add_block]; exact Kd.own_blk (Kd.R_ne HO_4.out BK787.out (by decide))) | (show (Addr.add _ _).block ≠ _; rw [add_block]; exact Kd.own_blk (Kd.R_ne HO_4.out BK787.out (by decide))) | (dsimp only; exact Kd.own_blk (Kd.R_ne HO_4.out BK787.out (by decide)))) _).trans (((cell_far (p := ⟨gb787, _, none⟩) (by first | exact Kd.own_blk (Kd.R_ne HO_4.out BK787.out (by decide)) | (rw [add_block]; exact Kd.own_blk (Kd.R_ne HO_4.out BK787.out (by decide))) | (show (Addr.add _ _).block ≠ _; rw [add_block]; exact Kd.own_blk (Kd.R_ne HO_4.out BK787.out (by decide))) | (dsimp only; exact Kd.own_blk (Kd.R_ne HO_4.out BK787.out (by decide)))) _).trans (((cell_far (p := ⟨gb787, _, none⟩) (by first | exact Kd.own_blk (Kd.R_ne HO_4.out BK787.out (by decide)) | (rw [add_block]; exact Kd.own_blk (Kd.R_ne HO_4.out BK787.out (by decide))) | (show (Addr.add _ _).block ≠ _; rw [add_block]; exact Kd.own_blk (Kd.R_ne HO_4.out BK787.out (by decide))) | (dsimp only; exact Kd.own_blk (Kd.R_ne HO_4.out BK787.out (by decide)))) _).trans (((cell_far (p := ⟨gb787, _, none⟩) (by first | exact Kd.own_blk (Kd.R_ne HO_4.out BK787.out (by decide)) | (rw [add_block]; exact Kd.own_blk (Kd.R_ne HO_4.out BK787.out (by decide))) | (show (Addr.add _ _).block ≠ _; rw [add_block]; exact Kd.own_blk (Kd.R_ne HO_4.out BK787.out (by decide))) | (dsimp only; exact Kd.own_blk (Kd.R_ne HO_4.out BK787.out (by decide)))) _).trans (hHeld.2))))))))))⟩ (fun hHeld => ?_)
           clear hK K
           refine done_ (done_of HT_.out (by kernel_rfl)) ?_
           have hnb34 := NB777_787.out;have hnc34 := NB787_777.out
           obtain ⟨_,_,_,_,_,_,_,_,_,_,_,_,_,_,_,_,_,_,_,_⟩ := blk10 BK777
           obtain ⟨_,_,_,_,_,_,_,_,_,_⟩ := blk5 BK787;have H := HH_.out;clear HH_
           by_cases c20 : t789 = 0
           ·
            rw [if_pos c20] at H
            have c20b0 : (t789 == 0) = true := beq_iff_eq.mpr c20
            have c20b1 : (t789 != 0) = false := bne_eq_false_iff_eq.mpr c20
            clear c20;replace H := Option.bind_eq_some_iff.mp H
            obtain ⟨⟨t790, t791⟩, A210, H⟩ := H
            replace H : (if t791 = 0 then (if a0_7 > 0 then ((cal_Add.f a0_8 l0_9 t790 a0_7).bind fun bt792 => (if bt792.2 = 0 then (if x6_1.length < 3518437208883 then (sched_Periods.l0 k1 t778 (x6_1 ++ [(⟨rd t778 x24_1, rd t778 (ji16), t788, t790, bt792.1⟩ : S81)]) ji4 ji16 a0_0 a0_1 a0_2 a0_3 a0_4 a0_5 a0_6 a0_7 a0_8 l0_9) else (none)) else (some (([] : List (S81)), bt792.2)))) else (if x6_1.length < 3518437208883 then (sched_Periods.l0 k1 t778 (x6_1 ++ [(⟨rd t778 x24_1, rd t778 (ji16), t788, t790, t790⟩ : S81)]) ji4 ji16 a0_0 a0_1 a0_2 a0_3 a0_4 a0_5 a0_6 a0_7 a0_8 l0_9) else (none))) else (some (([] : List (S81)), t791))) = some (r1, r2) := H
            have A21 := Aside0.mk A210;clear A210
            by_cases c22 : t791 = 0
            ·
             rw [if_pos c22] at H
             have c22b0 : (t791 == 0) = true := beq_iff_eq.mpr c22
             have c22b1 : (t791 != 0) = false := bne_eq_false_iff_eq.mpr c22
             clear c22
             by_cases c23 : a0_7 > 0
             ·
              rw [if_pos c23] at H
              have c23b0 : decide (0 < a0_7) = true := decide_eq_true c23
              clear c23;replace H := Option.bind_eq_some_iff.mp H
              obtain ⟨⟨t792, t793⟩, A240, H⟩ := H
              replace H : (if t793 = 0 then (if x6_1.length < 3518437208883 then (sched_Periods.l0 k1 t778 (x6_1 ++ [(⟨rd t778 x24_1, rd t778 (ji16), t788, t790, t792⟩ : S81)]) ji4 ji16 a0_0 a0_1 a0_2 a0_3 a0_4 a0_5 a0_6 a0_7 a0_8 l0_9) else (none)) else (some (([] : List (S81)), t793))) = some (r1, r2) := H
              have A24 := Aside0.mk A240;clear A240
              by_cases c25 : t793 = 0
              ·
               rw [if_pos c25] at H
               have c25b0 : (t793 == 0) = true := beq_iff_eq.mpr c25
               have c25b1 : (t793 != 0) = false := bne_eq_false_iff_eq.mpr c25
               clear c25
               by_cases c26 : x6_1.length < 3518437208883
               ·
                rw [if_pos c26] at H
                have LMc26 := Aside0.mk c26;clear c26
                obtain ⟨y794, hy794⟩ : ∃ y_ : List (S81), y_ = (x6_1 ++ [(⟨rd t778 x24_1, rd t778 (ji16), t788, t790, t792⟩ : S81)]) := ⟨_, rfl⟩
                replace H : (sched_Periods.l0 k1 t778 y794 ji4 ji16 a0_0 a0_1 a0_2 a0_3 a0_4 a0_5 a0_6 a0_7 a0_8 l0_9) = some (r1, r2) := by first | (rw [hy794]; with_reducible exact H) | (have H2_ := (Option.bind_some _ _).symm.trans H; rw [hy794]; with_reducible exact H2_) | (have H2_ := (Option.bind_some _ _).symm.trans H; with_reducible exact H2_) | with_reducible exact H | (rw [hy794]; exact H) | exact H
                have Ny794 := Aside0.mk hy794;clear hy794;have H' := Aside0.mk H;clear H
                try go_wp2_with (first | ((with_reducible refine gG 38 ?_); refine goA (some 44) Try.func38 #[.agg #[.int .i64 a0_8, .slice A0_9 l0_9.length c0_9], .int .i64 (rd t778 x24_1), .int .i64 a0_6] ?_; (with_reducible refine (cal_Adjust.calls a0_8 _ _ l0_9 (rd t778 x24_1) a0_6 t788 t789 _ ?side1 ?side2 A19.out).mono ?_); (case side1 => exact Kd.C_below HR0_9.out bB); (case side2 => exact HC0_9.out); rintro e w37 ⟨rfl, hb⟩; refine ⟨_, rfl, ?_⟩; replace HO_4 := Aside0.mk (Kd.R_below (by (with_reducible repeat (first | apply Kd.R_alloc | apply Kd.R_drewN | apply Kd.R_drew)); exact (Kd.R_mono (Kd.R_far (p := ⟨gb787, 4, none⟩) (Kd.R_far (p := ⟨gb787, 3, none⟩) (Kd.R_far (p := ⟨gb787, 2, none⟩) (Kd.R_far (p := ⟨gb787, 1, none⟩) (Kd.R_far (p := ⟨gb787, 0, none⟩) (Kd.R_types HO_4.out BK787.out (by decide)) (fun _ hk => hk.2) (.int .i64 (rd t778 x24_1))) (fun _ hk => hk.2) (.int .i64 (rd t778 (ji16)))) (fun _ hk => hk.2) (.int .i64 0)) (fun _ hk => hk.2) (.int .i64 0)) (fun _ hk => hk.2) (.int .i64 0)) (fun _ h_ => h_.1))) hb); replace HO_6 := Aside0.mk (Kd.R_below (by (with_reducible repeat (first | apply Kd.R_alloc | apply Kd.R_drewN | apply Kd.R_drew)); exact (Kd.R_mono (Kd.R_far (p := ⟨gb787, 4, none⟩) (Kd.R_far (p := ⟨gb787, 3, none⟩) (Kd.R_far (p := ⟨gb787, 2, none⟩) (Kd.R_far (p := ⟨gb787, 1, none⟩) (Kd.R_far (p := ⟨gb787, 0, none⟩) (Kd.R_mono HO_6.out (fun k_ hk => (⟨hk, hk.2⟩ : _ ∧ k_ ≠ gb787))) (fun _ hk => hk.2) (.int .i64 (rd t778 x24_1))) (fun _ hk => hk.2) (.int .i64 (rd t778 (ji16)))) (fun _ hk => hk.2) (.int .i64 0)) (fun _ hk => hk.2) (.int .i64 0)) (fun _ hk => hk.2) (.int .i64 0)) (fun _ h_ => h_.1))) hb); replace BK777 := Aside0.mk (blk_below (g := gb777) (o := .cells #[.int .i64 a0_0, .int .i64 a0_1, .int .i64 a0_2, .int .i64 a0_3, .int .i64 a0_4, .int .i64 a0_5, .int .i64 a0_6, .int .i64 a0_7, .int .i64 a0_8, .slice A0_9 l0_9.length c0_9] 66 (0, 0)) (by (with_reducible repeat (first | refine blk_drewN ?_ _ | refine blk_drew ?_ | refine blk_alloc ?_ _)); refine blk_far ?_ NB777_787.out _; (with_reducible repeat (first | refine blk_drewN ?_ _ | refine blk_drew ?_ | refine blk_alloc ?_ _)); refine blk_far ?_ NB777_787.out _; (with_reducible repeat (first | refine blk_drewN ?_ _ | refine blk_drew ?_ | refine blk_alloc ?_ _)); refine blk_far ?_ NB777_787.out _; (with_reducible repeat (first | refine blk_drewN ?_ _ | refine blk_drew ?_ | refine blk_alloc ?_ _)); refine blk_far ?_ NB777_787.out _; (with_reducible repeat (first | refine blk_drewN ?_ _ | refine blk_drew ?_ | refine blk_alloc ?_ _)); refine blk_far ?_ NB777_787.out _; (with_reducible repeat (first | refine blk_drewN ?_ _ | refine blk_drew ?_ | refine blk_alloc ?_ _)); exact BK777.out) hb); replace BK787 := Aside0.mk (blk_below (g := gb787) (o := .cells #[.int .i64 (rd t778 x24_1), .int .i64 (rd t778 (ji16)), .int .i64 0, .int .i64 0, .int .i64 0] 81 (0, 0)) (by (with_reducible repeat (first | refine blk_drewN ?_ _ | refine blk_drew ?_ | refine blk_alloc ?_ _)); refine blk_put (cs := #[.int .i64 (rd t778 x24_1), .int .i64 (rd t778 (ji16)), .int .i64 0, .int .i64 0, .int .i64 0]) ?_ 4 _ rfl; (with_reducible repeat (first | refine blk_drewN ?_ _ | refine blk_drew ?_ | refine blk_alloc ?_ _)); refine blk_put (cs := #[.int .i64 (rd t778 x24_1), .int .i64 (rd t778 (ji16)), .int .i64 0, .int .i64 0, .int .i64 0]) ?_ 3 _ rfl; (with_reducible repeat (first | refine blk_drewN ?_ _ | refine blk_drew ?_ | refine blk_alloc ?_ _)); refine blk_put (cs := #[.int .i64 (rd t778 x24_1), .int .i64 (rd t778 (ji16)), .int .i64 0, .int .i64 0, .int .i64 0]) ?_ 2 _ rfl; (with_reducible repeat (first | refine blk_drewN ?_ _ | refine blk_drew ?_ | refine blk_alloc ?_ _)); refine blk_put (cs := #[.int .i64 (rd t778 x24_1), .int .i64 0, .int .i64 0, .int .i64 0, .int .i64 0]) ?_ 1 _ rfl; (with_reducible repeat (first | refine blk_drewN ?_ _ | refine blk_drew ?_ | refine blk_alloc ?_ _)); refine blk_put (cs := #[.int .i64 0, .int .i64 0, .int .i64 0, .int .i64 0, .int .i64 0]) ?_ 0 _ rfl; (with_reducible repeat (first | refine blk_drewN ?_ _ | refine blk_drew ?_ | refine blk_alloc ?_ _)); exact BK787.out) hb); replace HB := bS hb; (try clear hb); (try clear hb2); (try clear hk); (try clear hi); obtain ⟨_,_,_,_,_,_,_,_,_,_⟩ := blk5 BK787; obtain ⟨_,_,_,_,_,_,_,_,_,_,_,_,_,_,_,_,_,_,_,_⟩ := blk10 BK777) | ((with_reducible refine gate_callee (f := 38) rfl ?_); refine goesL_ (some 58) rfl rfl Try.func38 (by kernel_rfl) rfl #[.agg #[.int .i64 a0_8, .slice A0_9 l0_9.length c0_9], .int .i64 (rd t778 (ji16)), .int .i64 a0_6] rfl (by (try simp only [List.map_toArray, List.map_cons, List.map_nil]); first | done | (simp only [hji16]; rfl) | rfl | (simp only [List.length_drop, List.length_take]; rfl)) ?_; (with_reducible refine (cal_Adjust.calls a0_8 _ _ l0_9 (rd t778 (ji16)) a0_6 t790 t791 _ ?side1 ?side2 A21.out).mono ?_); (case side1 => exact Kd.C_below HR0_9.out bB); (case side2 => exact HC0_9.out); rintro e w40 ⟨rfl, hb⟩; refine ⟨_, rfl, ?_⟩; replace HO_4 := Aside0.mk (Kd.R_below (by (with_reducible repeat (first | apply Kd.R_alloc | apply Kd.R_drewN | apply Kd.R_drew)); exact (Kd.R_mono (Kd.R_far (p := ⟨gb787, 2, none⟩) (Kd.R_types HO_4.out BK787.out (by decide)) (fun _ hk => hk.2) (.int .i64 t788)) (fun _ h_ => h_.1))) hb); replace HO_6 := Aside0.mk (Kd.R_below (by (with_reducible repeat (first | apply Kd.R_alloc | apply Kd.R_drewN | apply Kd.R_drew)); exact (Kd.R_mono (Kd.R_far (p := ⟨gb787, 2, none⟩) (Kd.R_mono HO_6.out (fun k_ hk => (⟨hk, hk.2⟩ : _ ∧ k_ ≠ gb787))) (fun _ hk => hk.2) (.int .i64 t788)) (fun _ h_ => h_.1))) hb); replace BK777 := Aside0.mk (blk_below (g := gb777) (o := .cells #[.int .i64 a0_0, .int .i64 a0_1, .int .i64 a0_2, .int .i64 a0_3, .int .i64 a0_4, .int .i64 a0_5, .int .i64 a0_6, .int .i64 a0_7, .int .i64 a0_8, .slice A0_9 l0_9.length c0_9] 66 (0, 0)) (by (with_reducible repeat (first | refine blk_drewN ?_ _ | refine blk_drew ?_ | refine blk_alloc ?_ _)); refine blk_far ?_ NB777_787.out _; (with_reducible repeat (first | refine blk_drewN ?_ _ | refine blk_drew ?_ | refine blk_alloc ?_ _)); exact BK777.out) hb); replace BK787 := Aside0.mk (blk_below (g := gb787) (o := .cells #[.int .i64 (rd t778 x24_1), .int .i64 (rd t778 (ji16)), .int .i64 t788, .int .i64 0, .int .i64 0] 81 (0, 0)) (by (with_reducible repeat (first | refine blk_drewN ?_ _ | refine blk_drew ?_ | refine blk_alloc ?_ _)); refine blk_put (cs := #[.int .i64 (rd t778 x24_1), .int .i64 (rd t778 (ji16)), .int .i64 0, .int .i64 0, .int .i64 0]) ?_ 2 _ rfl; (with_reducible repeat (first | refine blk_drewN ?_ _ | refine blk_drew ?_ | refine blk_alloc ?_ _)); exact BK787.out) hb); replace HB := bS hb; (try clear hb); (try clear hb2); (try clear hk); (try clear hi); obtain ⟨_,_,_,_,_,_,_,_,_,_⟩ := blk5 BK787; obtain ⟨_,_,_,_,_,_,_,_,_,_,_,_,_,_,_,_,_,_,_,_⟩ := blk10 BK777) | ((with_reducible refine gG 40 ?_); refine goA (some 78) Try.func40 #[.agg #[.int .i64 a0_8, .slice A0_9 l0_9.length c0_9], .int .i64 t790, .int .i64 a0_7] ?_; (with_reducible refine (cal_Add.calls a0_8 _ _ l0_9 t790 a0_7 t792 t793 _ ?side1 ?side2 A24.out).mono ?_); (case side1 => exact Kd.C_below HR0_9.out bB); (case side2 => exact HC0_9.out); rintro e w43 ⟨rfl, hb⟩; refine ⟨_, rfl, ?_⟩; replace HO_4 := Aside0.mk (Kd.R_below (by (with_reducible repeat (first | apply Kd.R_alloc | apply Kd.R_drewN | apply Kd.R_drew)); exact (Kd.R_mono (Kd.R_far (p := ⟨gb787, 4, none⟩) (Kd.R_far (p := ⟨gb787, 3, none⟩) (Kd.R_types HO_4.out BK787.out (by decide)) (fun _ hk => hk.2) (.int .i64 t790)) (fun _ hk => hk.2) (.int .i64 t790)) (fun _ h_ => h_.1))) hb); replace HO_6 := Aside0.mk (Kd.R_below (by (with_reducible repeat (first | apply Kd.R_alloc | apply Kd.R_drewN | apply Kd.R_drew)); exact (Kd.R_mono (Kd.R_far (p := ⟨gb787, 4, none⟩) (Kd.R_far (p := ⟨gb787, 3, none⟩) (Kd.R_mono HO_6.out (fun k_ hk => (⟨hk, hk.2⟩ : _ ∧ k_ ≠ gb787))) (fun _ hk => hk.2) (.int .i64 t790)) (fun _ hk => hk.2) (.int .i64 t790)) (fun _ h_ => h_.1))) hb); replace BK777 := Aside0.mk (blk_below (g := gb777) (o := .cells #[.int .i64 a0_0, .int .i64 a0_1, .int .i64 a0_2, .int .i64 a0_3, .int .i64 a0_4, .int .i64 a0_5, .int .i64 a0_6, .int .i64 a0_7, .int .i64 a0_8, .slice A0_9 l0_9.length c0_9] 66 (0, 0)) (by (with_reducible repeat (first | refine blk_drewN ?_ _ | refine blk_drew ?_ | refine blk_alloc ?_ _)); refine blk_far ?_ NB777_787.out _; (with_reducible repeat (first | refine blk_drewN ?_ _ | refine blk_drew ?_ | refine blk_alloc ?_ _)); refine blk_far ?_ NB777_787.out _; (with_reducible repeat (first | refine blk_drewN ?_ _ | refine blk_drew ?_ | refine blk_alloc ?_ _)); exact BK777.out) hb); replace BK787 := Aside0.mk (blk_below (g := gb787) (o := .cells #[.int .i64 (rd t778 x24_1), .int .i64 (rd t778 (ji16)), .int .i64 t788, .int .i64 t790, .int .i64 t790] 81 (0, 0)) (by (with_reducible repeat (first | refine blk_drewN ?_ _ | refine blk_drew ?_ | refine blk_alloc ?_ _)); refine blk_put (cs := #[.int .i64 (rd t778 x24_1), .int .i64 (rd t778 (ji16)), .int .i64 t788, .int .i64 t790, .int .i64 0]) ?_ 4 _ rfl; (with_reducible repeat (first | refine blk_drewN ?_ _ | refine blk_drew ?_ | refine blk_alloc ?_ _)); refine blk_put (cs := #[.int .i64 (rd t778 x24_1), .int .i64 (rd t778 (ji16)), .int .i64 t788, .int .i64 0, .int .i64 0]) ?_ 3 _ rfl; (with_reducible repeat (first | refine blk_drewN ?_ _ | refine blk_drew ?_ | refine blk_alloc ?_ _)); exact BK787.out) hb); replace HB := bS hb; (try clear hb); (try clear hb2); (try clear hk); (try clear hi); obtain ⟨_,_,_,_,_,_,_,_,_,_⟩ := blk5 BK787) | ((with_reducible refine gate_builtin (b := .append) (xs := #[.tmp 85, .tmp 87]) rfl ?_); at_builtin; refine Kd.R_append k81 (w0 := w) w.heap.size rfl (.tmp 85) (.tmp 87) 74 81 (.agg #[(.int .i64 0), (.int .i64 0), (.int .i64 0), (.int .i64 0), (.int .i64 0)]) 40 rfl Try.underlying74 info81 rfl (by decide) (by omega) u6 x6_1 (⟨rd t778 x24_1, rd t778 (ji16), t788, t790, t792⟩ : S81) [.int .i64 (rd t778 x24_1), .int .i64 (rd t778 (ji16)), .int .i64 t788, .int .i64 t790, .int .i64 t792] (fun k_ => k_ ≠ gb787) (fun _ => False) rfl (by first | (go_simp; done) | (go_simp; rfl)) ?aP (fun _ hk => hk.elim) ?aF ?aO ?aB ?aS ?aL ?_; (case aP => exact k81_mkM _ _ _ (⟨rd t778 x24_1, rd t778 (ji16), t788, t790, t792⟩ : S81)); (case aB => exact bB); (case aF => exact (fun k_ hk => Kd.freshB (g := gb787) (o := .cells #[.int .i64 (rd t778 x24_1), .int .i64 (rd t778 (ji16)), .int .i64 t788, .int .i64 t790, .int .i64 t792] 81 (0, 0)) (by (with_reducible repeat (first | refine blk_drewN ?_ _ | refine blk_drew ?_ | refine blk_alloc ?_ _)); refine blk_put (cs := #[.int .i64 (rd t778 x24_1), .int .i64 (rd t778 (ji16)), .int .i64 t788, .int .i64 t790, .int .i64 t790]) ?_ 4 _ rfl; (with_reducible repeat (first | refine blk_drewN ?_ _ | refine blk_drew ?_ | refine blk_alloc ?_ _)); exact BK787.out) k_ hk)); (case aO => exact (by (with_reducible repeat (first | apply Kd.R_alloc | apply Kd.R_drewN | apply Kd.R_drew)); exact Kd.R_mono (Kd.R_far (p := ⟨gb787, 4, none⟩) (Kd.R_mono HO_6.out (fun k_ hk => (⟨hk, hk.2⟩ : _ ∧ k_ ≠ gb787))) (fun _ hk => hk.2) (.int .i64 t792)) (fun _ hk => hk.1.2))); (case aS => exact (below_size bB)); (case aL => have := LMc26.out; omega); intro v795 w45 ho hb hg hat; rw [← Ny794.out] at ho; replace HO_4 := Aside0.mk (Kd.R_over' (by (with_reducible repeat (first | apply Kd.R_alloc | apply Kd.R_drewN | apply Kd.R_drew)); exact (Kd.R_mono (Kd.R_far (p := ⟨gb787, 4, none⟩) (Kd.R_types HO_4.out BK787.out (by decide)) (fun _ hk => hk.2) (.int .i64 t792)) (fun _ h_ => h_.1))) (Kd.R_typed (by (with_reducible repeat (first | apply Kd.R_alloc | apply Kd.R_drewN | apply Kd.R_drew)); exact (Kd.R_mono (Kd.R_far (p := ⟨gb787, 4, none⟩) (Kd.R_mono HO_6.out (fun k_ hk => (⟨hk, hk.2⟩ : _ ∧ k_ ≠ gb787))) (fun _ hk => hk.2) (.int .i64 t792)) (fun _ h_ => h_.1)))) (by decide) hg); replace BK777 := Aside0.mk (blk_grown (g := gb777) (o := .cells #[.int .i64 a0_0, .int .i64 a0_1, .int .i64 a0_2, .int .i64 a0_3, .int .i64 a0_4, .int .i64 a0_5, .int .i64 a0_6, .int .i64 a0_7, .int .i64 a0_8, .slice A0_9 l0_9.length c0_9] 66 (0, 0)) (by (with_reducible repeat (first | refine blk_drewN ?_ _ | refine blk_drew ?_ | refine blk_alloc ?_ _)); refine blk_far ?_ NB777_787.out _; (with_reducible repeat (first | refine blk_drewN ?_ _ | refine blk_drew ?_ | refine blk_alloc ?_ _)); exact BK777.out) hg (Kd.R_ne HO_6.out BK777.out (by decide))); replace BK787 := Aside0.mk (blk_grown (g := gb787) (o := .cells #[.int .i64 (rd t778 x24_1), .int .i64 (rd t778 (ji16)), .int .i64 t788, .int .i64 t790, .int .i64 t792] 81 (0, 0)) (by (with_reducible repeat (first | refine blk_drewN ?_ _ | refine blk_drew ?_ | refine blk_alloc ?_ _)); refine blk_put (cs := #[.int .i64 (rd t778 x24_1), .int .i64 (rd t778 (ji16)), .int .i64 t788, .int .i64 t790, .int .i64 t790]) ?_ 4 _ rfl; (with_reducible repeat (first | refine blk_drewN ?_ _ | refine blk_drew ?_ | refine blk_alloc ?_ _)); exact BK787.out) hg (Kd.R_away HO_6.out (fun _ hk => hk.2))); replace HB := Aside0.mk (hb); have HO796 := Aside0.mk (ho); clear HO_6; clear ho hb hg hat))
                go_roundg k1
                case measure => have := HK1.out; omega
                case rel => exact ⟨(y794), (ji16), (by first | rfl | (simp; done) | (simp only [← hji16] <;> (first | rfl | simp)) | (simp [*]; done)), H', ⟨by have := HK1.out; omega⟩, ⟨(bR HO_4)⟩, ⟨by (with_reducible repeat (first | apply Kd.R_alloc | apply Kd.R_drewN | apply Kd.R_drew)); exact Kd.R_mono HO796.out (fun _ hk => trivial)⟩, ⟨(bk BK777)⟩, ⟨bB⟩⟩
               ·
                rw [if_neg c26] at H
                exact absurd H (by simp)
              ·
               rw [if_neg c25] at H
               have c25b0 : (t793 == 0) = false := beq_eq_false_iff_ne.mpr c25
               have c25b1 : (t793 != 0) = true := bne_iff_ne.mpr c25
               simp only [Option.some.injEq, Prod.mk.injEq] at H
               obtain ⟨rfl, rfl⟩ := H
               try go_wp2_with (first | ((with_reducible refine gG 38 ?_); refine goA (some 44) Try.func38 #[.agg #[.int .i64 a0_8, .slice A0_9 l0_9.length c0_9], .int .i64 (rd t778 x24_1), .int .i64 a0_6] ?_; (with_reducible refine (cal_Adjust.calls a0_8 _ _ l0_9 (rd t778 x24_1) a0_6 t788 t789 _ ?side1 ?side2 A19.out).mono ?_); (case side1 => exact Kd.C_below HR0_9.out bB); (case side2 => exact HC0_9.out); rintro e w56 ⟨rfl, hb⟩; refine ⟨_, rfl, ?_⟩; replace HO_4 := Aside0.mk (Kd.R_below (by (with_reducible repeat (first | apply Kd.R_alloc | apply Kd.R_drewN | apply Kd.R_drew)); exact (Kd.R_mono (Kd.R_far (p := ⟨gb787, 4, none⟩) (Kd.R_far (p := ⟨gb787, 3, none⟩) (Kd.R_far (p := ⟨gb787, 2, none⟩) (Kd.R_far (p := ⟨gb787, 1, none⟩) (Kd.R_far (p := ⟨gb787, 0, none⟩) (Kd.R_types HO_4.out BK787.out (by decide)) (fun _ hk => hk.2) (.int .i64 (rd t778 x24_1))) (fun _ hk => hk.2) (.int .i64 (rd t778 (ji16)))) (fun _ hk => hk.2) (.int .i64 0)) (fun _ hk => hk.2) (.int .i64 0)) (fun _ hk => hk.2) (.int .i64 0)) (fun _ h_ => h_.1))) hb); replace HO_6 := Aside0.mk (Kd.R_below (by (with_reducible repeat (first | apply Kd.R_alloc | apply Kd.R_drewN | apply Kd.R_drew)); exact (Kd.R_mono (Kd.R_far (p := ⟨gb787, 4, none⟩) (Kd.R_far (p := ⟨gb787, 3, none⟩) (Kd.R_far (p := ⟨gb787, 2, none⟩) (Kd.R_far (p := ⟨gb787, 1, none⟩) (Kd.R_far (p := ⟨gb787, 0, none⟩) (Kd.R_mono HO_6.out (fun k_ hk => (⟨hk, hk.2⟩ : _ ∧ k_ ≠ gb787))) (fun _ hk => hk.2) (.int .i64 (rd t778 x24_1))) (fun _ hk => hk.2) (.int .i64 (rd t778 (ji16)))) (fun _ hk => hk.2) (.int .i64 0)) (fun _ hk => hk.2) (.int .i64 0)) (fun _ hk => hk.2) (.int .i64 0)) (fun _ h_ => h_.1))) hb); replace BK777 := Aside0.mk (blk_below (g := gb777) (o := .cells #[.int .i64 a0_0, .int .i64 a0_1, .int .i64 a0_2, .int .i64 a0_3, .int .i64 a0_4, .int .i64 a0_5, .int .i64 a0_6, .int .i64 a0_7, .int .i64 a0_8, .slice A0_9 l0_9.length c0_9] 66 (0, 0)) (by (with_reducible repeat (first | refine blk_drewN ?_ _ | refine blk_drew ?_ | refine blk_alloc ?_ _)); refine blk_far ?_ NB777_787.out _; (with_reducible repeat (first | refine blk_drewN ?_ _ | refine blk_drew ?_ | refine blk_alloc ?_ _)); refine blk_far ?_ NB777_787.out _; (with_reducible repeat (first | refine blk_drewN ?_ _ | refine blk_drew ?_ | refine blk_alloc ?_ _)); refine blk_far ?_ NB777_787.out _; (with_reducible repeat (first | refine blk_drewN ?_ _ | refine blk_drew ?_ | refine blk_alloc ?_ _)); refine blk_far ?_ NB777_787.out _; (with_reducible repeat (first | refine blk_drewN ?_ _ | refine blk_drew ?_ | refine blk_alloc ?_ _)); refine blk_far ?_ NB777_787.out _; (with_reducible repeat (first | refine blk_drewN ?_ _ | refine blk_drew ?_ | refine blk_alloc ?_ _)); exact BK777.out) hb); replace BK787 := Aside0.mk (blk_below (g := gb787) (o := .cells #[.int .i64 (rd t778 x24_1), .int .i64 (rd t778 (ji16)), .int .i64 0, .int .i64 0, .int .i64 0] 81 (0, 0)) (by (with_reducible repeat (first | refine blk_drewN ?_ _ | refine blk_drew ?_ | refine blk_alloc ?_ _)); refine blk_put (cs := #[.int .i64 (rd t778 x24_1), .int .i64 (rd t778 (ji16)), .int .i64 0, .int .i64 0, .int .i64 0]) ?_ 4 _ rfl; (with_reducible repeat (first | refine blk_drewN ?_ _ | refine blk_drew ?_ | refine blk_alloc ?_ _)); refine blk_put (cs := #[.int .i64 (rd t778 x24_1), .int .i64 (rd t778 (ji16)), .int .i64 0, .int .i64 0, .int .i64 0]) ?_ 3 _ rfl; (with_reducible repeat (first | refine blk_drewN ?_ _ | refine blk_drew ?_ | refine blk_alloc ?_ _)); refine blk_put (cs := #[.int .i64 (rd t778 x24_1), .int .i64 (rd t778 (ji16)), .int .i64 0, .int .i64 0, .int .i64 0]) ?_ 2 _ rfl; (with_reducible repeat (first | refine blk_drewN ?_ _ | refine blk_drew ?_ | refine blk_alloc ?_ _)); refine blk_put (cs := #[.int .i64 (rd t778 x24_1), .int .i64 0, .int .i64 0, .int .i64 0, .int .i64 0]) ?_ 1 _ rfl; (with_reducible repeat (first | refine blk_drewN ?_ _ | refine blk_drew ?_ | refine blk_alloc ?_ _)); refine blk_put (cs := #[.int .i64 0, .int .i64 0, .int .i64 0, .int .i64 0, .int .i64 0]) ?_ 0 _ rfl; (with_reducible repeat (first | refine blk_drewN ?_ _ | refine blk_drew ?_ | refine blk_alloc ?_ _)); exact BK787.out) hb); replace HB := bS hb; (try clear hb); (try clear hb2); (try clear hk); (try clear hi); obtain ⟨_,_,_,_,_,_,_,_,_,_⟩ := blk5 BK787; obtain ⟨_,_,_,_,_,_,_,_,_,_,_,_,_,_,_,_,_,_,_,_⟩ := blk10 BK777) | ((with_reducible refine gate_callee (f := 38) rfl ?_); refine goesL_ (some 58) rfl rfl Try.func38 (by kernel_rfl) rfl #[.agg #[.int .i64 a0_8, .slice A0_9 l0_9.length c0_9], .int .i64 (rd t778 (ji16)), .int .i64 a0_6] rfl (by (try simp only [List.map_toArray, List.map_cons, List.map_nil]); first | done | (simp only [hji16]; rfl) | rfl | (simp only [List.length_drop, List.length_take]; rfl)) ?_; (with_reducible refine (cal_Adjust.calls a0_8 _ _ l0_9 (rd t778 (ji16)) a0_6 t790 t791 _ ?side1 ?side2 A21.out).mono ?_); (case side1 => exact Kd.C_below HR0_9.out bB); (case side2 => exact HC0_9.out); rintro e w59 ⟨rfl, hb⟩; refine ⟨_, rfl, ?_⟩; replace HO_4 := Aside0.mk (Kd.R_below (by (with_reducible repeat (first | apply Kd.R_alloc | apply Kd.R_drewN | apply Kd.R_drew)); exact (Kd.R_mono (Kd.R_far (p := ⟨gb787, 2, none⟩) (Kd.R_types HO_4.out BK787.out (by decide)) (fun _ hk => hk.2) (.int .i64 t788)) (fun _ h_ => h_.1))) hb); replace HO_6 := Aside0.mk (Kd.R_below (by (with_reducible repeat (first | apply Kd.R_alloc | apply Kd.R_drewN | apply Kd.R_drew)); exact (Kd.R_mono (Kd.R_far (p := ⟨gb787, 2, none⟩) (Kd.R_mono HO_6.out (fun k_ hk => (⟨hk, hk.2⟩ : _ ∧ k_ ≠ gb787))) (fun _ hk => hk.2) (.int .i64 t788)) (fun _ h_ => h_.1))) hb); replace BK777 := Aside0.mk (blk_below (g := gb777) (o := .cells #[.int .i64 a0_0, .int .i64 a0_1, .int .i64 a0_2, .int .i64 a0_3, .int .i64 a0_4, .int .i64 a0_5, .int .i64 a0_6, .int .i64 a0_7, .int .i64 a0_8, .slice A0_9 l0_9.length c0_9] 66 (0, 0)) (by (with_reducible repeat (first | refine blk_drewN ?_ _ | refine blk_drew ?_ | refine blk_alloc ?_ _)); refine blk_far ?_ NB777_787.out _; (with_reducible repeat (first | refine blk_drewN ?_ _ | refine blk_drew ?_ | refine blk_alloc ?_ _)); exact BK777.out) hb); replace BK787 := Aside0.mk (blk_below (g := gb787) (o := .cells #[.int .i64 (rd t778 x24_1), .int .i64 (rd t778 (ji16)), .int .i64 t788, .int .i64 0, .int .i64 0] 81 (0, 0)) (by (with_reducible repeat (first | refine blk_drewN ?_ _ | refine blk_drew ?_ | refine blk_alloc ?_ _)); refine blk_put (cs := #[.int .i64 (rd t778 x24_1), .int .i64 (rd t778 (ji16)), .int .i64 0, .int .i64 0, .int .i64 0]) ?_ 2 _ rfl; (with_reducible repeat (first | refine blk_drewN ?_ _ | refine blk_drew ?_ | refine blk_alloc ?_ _)); exact BK787.out) hb); replace HB := bS hb; (try clear hb); (try clear hb2); (try clear hk); (try clear hi); obtain ⟨_,_,_,_,_,_,_,_,_,_⟩ := blk5 BK787; obtain ⟨_,_,_,_,_,_,_,_,_,_,_,_,_,_,_,_,_,_,_,_⟩ := blk10 BK777) | ((with_reducible refine gG 40 ?_); refine goA (some 78) Try.func40 #[.agg #[.int .i64 a0_8, .slice A0_9 l0_9.length c0_9], .int .i64 t790, .int .i64 a0_7] ?_; (with_reducible refine (cal_Add.calls a0_8 _ _ l0_9 t790 a0_7 t792 t793 _ ?side1 ?side2 A24.out).mono ?_); (case side1 => exact Kd.C_below HR0_9.out bB); (case side2 => exact HC0_9.out); rintro e w62 ⟨rfl, hb⟩; refine ⟨_, rfl, ?_⟩; replace HO_4 := Aside0.mk (Kd.R_below (by (with_reducible repeat (first | apply Kd.R_alloc | apply Kd.R_drewN | apply Kd.R_drew)); exact (Kd.R_mono (Kd.R_far (p := ⟨gb787, 4, none⟩) (Kd.R_far (p := ⟨gb787, 3, none⟩) (Kd.R_types HO_4.out BK787.out (by decide)) (fun _ hk => hk.2) (.int .i64 t790)) (fun _ hk => hk.2) (.int .i64 t790)) (fun _ h_ => h_.1))) hb); replace HO_6 := Aside0.mk (Kd.R_below (by (with_reducible repeat (first | apply Kd.R_alloc | apply Kd.R_drewN | apply Kd.R_drew)); exact (Kd.R_mono (Kd.R_far (p := ⟨gb787, 4, none⟩) (Kd.R_far (p := ⟨gb787, 3, none⟩) (Kd.R_mono HO_6.out (fun k_ hk => (⟨hk, hk.2⟩ : _ ∧ k_ ≠ gb787))) (fun _ hk => hk.2) (.int .i64 t790)) (fun _ hk => hk.2) (.int .i64 t790)) (fun _ h_ => h_.1))) hb); replace BK777 := Aside0.mk (blk_below (g := gb777) (o := .cells #[.int .i64 a0_0, .int .i64 a0_1, .int .i64 a0_2, .int .i64 a0_3, .int .i64 a0_4, .int .i64 a0_5, .int .i64 a0_6, .int .i64 a0_7, .int .i64 a0_8, .slice A0_9 l0_9.length c0_9] 66 (0, 0)) (by (with_reducible repeat (first | refine blk_drewN ?_ _ | refine blk_drew ?_ | refine blk_alloc ?_ _)); refine blk_far ?_ NB777_787.out _; (with_reducible repeat (first | refine blk_drewN ?_ _ | refine blk_drew ?_ | refine blk_alloc ?_ _)); refine blk_far ?_ NB777_787.out _; (with_reducible repeat (first | refine blk_drewN ?_ _ | refine blk_drew ?_ | refine blk_alloc ?_ _)); exact BK777.out) hb); replace BK787 := Aside0.mk (blk_below (g := gb787) (o := .cells #[.int .i64 (rd t778 x24_1), .int .i64 (rd t778 (ji16)), .int .i64 t788, .int .i64 t790, .int .i64 t790] 81 (0, 0)) (by (with_reducible repeat (first | refine blk_drewN ?_ _ | refine blk_drew ?_ | refine blk_alloc ?_ _)); refine blk_put (cs := #[.int .i64 (rd t778 x24_1), .int .i64 (rd t778 (ji16)), .int .i64 t788, .int .i64 t790, .int .i64 0]) ?_ 4 _ rfl; (with_reducible repeat (first | refine blk_drewN ?_ _ | refine blk_drew ?_ | refine blk_alloc ?_ _)); refine blk_put (cs := #[.int .i64 (rd t778 x24_1), .int .i64 (rd t778 (ji16)), .int .i64 t788, .int .i64 0, .int .i64 0]) ?_ 3 _ rfl; (with_reducible repeat (first | refine blk_drewN ?_ _ | refine blk_drew ?_ | refine blk_alloc ?_ _)); exact BK787.out) hb); replace HB := bS hb; (try clear hb); (try clear hb2); (try clear hk); (try clear hi); obtain ⟨_,_,_,_,_,_,_,_,_,_⟩ := blk5 BK787))
               go_ret2
               exact ⟨_, by first | rfl | (simp [errW_none, errW_some] <;> rfl) | (simp only [← hji4, ← hji16]; first | rfl | (simp [errW_none, errW_some] <;> rfl)) | (simp [*, errW_none, errW_some] <;> rfl), by first | exact Kd.R_nil _ _ _ _ _ | exact Kd.N_nil _ _ _ _ _ | exact Kd.V_nil _ _ _ _ _ | exact Kd.Q_nil _ _ _ _ _ | exact Kd.S_nil _ _ _ _ _, bB⟩
             ·
              rw [if_neg c23] at H
              have c23b0 : decide (0 < a0_7) = false := decide_eq_false c23
              clear c23
              by_cases c64 : x6_1.length < 3518437208883
              ·
               rw [if_pos c64] at H
               have LMc64 := Aside0.mk c64;clear c64
               obtain ⟨y797, hy797⟩ : ∃ y_ : List (S81), y_ = (x6_1 ++ [(⟨rd t778 x24_1, rd t778 (ji16), t788, t790, t790⟩ : S81)]) := ⟨_, rfl⟩
               replace H : (sched_Periods.l0 k1 t778 y797 ji4 ji16 a0_0 a0_1 a0_2 a0_3 a0_4 a0_5 a0_6 a0_7 a0_8 l0_9) = some (r1, r2) := by first | (rw [hy797]; with_reducible exact H) | (have H2_ := (Option.bind_some _ _).symm.trans H; rw [hy797]; with_reducible exact H2_) | (have H2_ := (Option.bind_some _ _).symm.trans H; with_reducible exact H2_) | with_reducible exact H | (rw [hy797]; exact H) | exact H
               have Ny797 := Aside0.mk hy797;clear hy797;have H' := Aside0.mk H;clear H
               try go_wp2_with (first | ((with_reducible refine gG 38 ?_); refine goA (some 44) Try.func38 #[.agg #[.int .i64 a0_8, .slice A0_9 l0_9.length c0_9], .int .i64 (rd t778 x24_1), .int .i64 a0_6] ?_; (with_reducible refine (cal_Adjust.calls a0_8 _ _ l0_9 (rd t778 x24_1) a0_6 t788 t789 _ ?side1 ?side2 A19.out).mono ?_); (case side1 => exact Kd.C_below HR0_9.out bB); (case side2 => exact HC0_9.out); rintro e w75 ⟨rfl, hb⟩; refine ⟨_, rfl, ?_⟩; replace HO_4 := Aside0.mk (Kd.R_below (by (with_reducible repeat (first | apply Kd.R_alloc | apply Kd.R_drewN | apply Kd.R_drew)); exact (Kd.R_mono (Kd.R_far (p := ⟨gb787, 4, none⟩) (Kd.R_far (p := ⟨gb787, 3, none⟩) (Kd.R_far (p := ⟨gb787, 2, none⟩) (Kd.R_far (p := ⟨gb787, 1, none⟩) (Kd.R_far (p := ⟨gb787, 0, none⟩) (Kd.R_types HO_4.out BK787.out (by decide)) (fun _ hk => hk.2) (.int .i64 (rd t778 x24_1))) (fun _ hk => hk.2) (.int .i64 (rd t778 (ji16)))) (fun _ hk => hk.2) (.int .i64 0)) (fun _ hk => hk.2) (.int .i64 0)) (fun _ hk => hk.2) (.int .i64 0)) (fun _ h_ => h_.1))) hb); replace HO_6 := Aside0.mk (Kd.R_below (by (with_reducible repeat (first | apply Kd.R_alloc | apply Kd.R_drewN | apply Kd.R_drew)); exact (Kd.R_mono (Kd.R_far (p := ⟨gb787, 4, none⟩) (Kd.R_far (p := ⟨gb787, 3, none⟩) (Kd.R_far (p := ⟨gb787, 2, none⟩) (Kd.R_far (p := ⟨gb787, 1, none⟩) (Kd.R_far (p := ⟨gb787, 0, none⟩) (Kd.R_mono HO_6.out (fun k_ hk => (⟨hk, hk.2⟩ : _ ∧ k_ ≠ gb787))) (fun _ hk => hk.2) (.int .i64 (rd t778 x24_1))) (fun _ hk => hk.2) (.int .i64 (rd t778 (ji16)))) (fun _ hk => hk.2) (.int .i64 0)) (fun _ hk => hk.2) (.int .i64 0)) (fun _ hk => hk.2) (.int .i64 0)) (fun _ h_ => h_.1))) hb); replace BK777 := Aside0.mk (blk_below (g := gb777) (o := .cells #[.int .i64 a0_0, .int .i64 a0_1, .int .i64 a0_2, .int .i64 a0_3, .int .i64 a0_4, .int .i64 a0_5, .int .i64 a0_6, .int .i64 a0_7, .int .i64 a0_8, .slice A0_9 l0_9.length c0_9] 66 (0, 0)) (by (with_reducible repeat (first | refine blk_drewN ?_ _ | refine blk_drew ?_ | refine blk_alloc ?_ _)); refine blk_far ?_ NB777_787.out _; (with_reducible repeat (first | refine blk_drewN ?_ _ | refine blk_drew ?_ | refine blk_alloc ?_ _)); refine blk_far ?_ NB777_787.out _; (with_reducible repeat (first | refine blk_drewN ?_ _ | refine blk_drew ?_ | refine blk_alloc ?_ _)); refine blk_far ?_ NB777_787.out _; (with_reducible repeat (first | refine blk_drewN ?_ _ | refine blk_drew ?_ | refine blk_alloc ?_ _)); refine blk_far ?_ NB777_787.out _; (with_reducible repeat (first | refine blk_drewN ?_ _ | refine blk_drew ?_ | refine blk_alloc ?_ _)); refine blk_far ?_ NB777_787.out _; (with_reducible repeat (first | refine blk_drewN ?_ _ | refine blk_drew ?_ | refine blk_alloc ?_ _)); exact BK777.out) hb); replace BK787 := Aside0.mk (blk_below (g := gb787) (o := .cells #[.int .i64 (rd t778 x24_1), .int .i64 (rd t778 (ji16)), .int .i64 0, .int .i64 0, .int .i64 0] 81 (0, 0)) (by (with_reducible repeat (first | refine blk_drewN ?_ _ | refine blk_drew ?_ | refine blk_alloc ?_ _)); refine blk_put (cs := #[.int .i64 (rd t778 x24_1), .int .i64 (rd t778 (ji16)), .int .i64 0, .int .i64 0, .int .i64 0]) ?_ 4 _ rfl; (with_reducible repeat (first | refine blk_drewN ?_ _ | refine blk_drew ?_ | refine blk_alloc ?_ _)); refine blk_put (cs := #[.int .i64 (rd t778 x24_1), .int .i64 (rd t778 (ji16)), .int .i64 0, .int .i64 0, .int .i64 0]) ?_ 3 _ rfl; (with_reducible repeat (first | refine blk_drewN ?_ _ | refine blk_drew ?_ | refine blk_alloc ?_ _)); refine blk_put (cs := #[.int .i64 (rd t778 x24_1), .int .i64 (rd t778 (ji16)), .int .i64 0, .int .i64 0, .int .i64 0]) ?_ 2 _ rfl; (with_reducible repeat (first | refine blk_drewN ?_ _ | refine blk_drew ?_ | refine blk_alloc ?_ _)); refine blk_put (cs := #[.int .i64 (rd t778 x24_1), .int .i64 0, .int .i64 0, .int .i64 0, .int .i64 0]) ?_ 1 _ rfl; (with_reducible repeat (first | refine blk_drewN ?_ _ | refine blk_drew ?_ | refine blk_alloc ?_ _)); refine blk_put (cs := #[.int .i64 0, .int .i64 0, .int .i64 0, .int .i64 0, .int .i64 0]) ?_ 0 _ rfl; (with_reducible repeat (first | refine blk_drewN ?_ _ | refine blk_drew ?_ | refine blk_alloc ?_ _)); exact BK787.out) hb); replace HB := bS hb; (try clear hb); (try clear hb2); (try clear hk); (try clear hi); obtain ⟨_,_,_,_,_,_,_,_,_,_⟩ := blk5 BK787; obtain ⟨_,_,_,_,_,_,_,_,_,_,_,_,_,_,_,_,_,_,_,_⟩ := blk10 BK777) | ((with_reducible refine gate_callee (f := 38) rfl ?_); refine goesL_ (some 58) rfl rfl Try.func38 (by kernel_rfl) rfl #[.agg #[.int .i64 a0_8, .slice A0_9 l0_9.length c0_9], .int .i64 (rd t778 (ji16)), .int .i64 a0_6] rfl (by (try simp only [List.map_toArray, List.map_cons, List.map_nil]); first | done | (simp only [hji16]; rfl) | rfl | (simp only [List.length_drop, List.length_take]; rfl)) ?_; (with_reducible refine (cal_Adjust.calls a0_8 _ _ l0_9 (rd t778 (ji16)) a0_6 t790 t791 _ ?side1 ?side2 A21.out).mono ?_); (case side1 => exact Kd.C_below HR0_9.out bB); (case side2 => exact HC0_9.out); rintro e w78 ⟨rfl, hb⟩; refine ⟨_, rfl, ?_⟩; replace HO_4 := Aside0.mk (Kd.R_below (by (with_reducible repeat (first | apply Kd.R_alloc | apply Kd.R_drewN | apply Kd.R_drew)); exact (Kd.R_mono (Kd.R_far (p := ⟨gb787, 2, none⟩) (Kd.R_types HO_4.out BK787.out (by decide)) (fun _ hk => hk.2) (.int .i64 t788)) (fun _ h_ => h_.1))) hb); replace HO_6 := Aside0.mk (Kd.R_below (by (with_reducible repeat (first | apply Kd.R_alloc | apply Kd.R_drewN | apply Kd.R_drew)); exact (Kd.R_mono (Kd.R_far (p := ⟨gb787, 2, none⟩) (Kd.R_mono HO_6.out (fun k_ hk => (⟨hk, hk.2⟩ : _ ∧ k_ ≠ gb787))) (fun _ hk => hk.2) (.int .i64 t788)) (fun _ h_ => h_.1))) hb); replace BK777 := Aside0.mk (blk_below (g := gb777) (o := .cells #[.int .i64 a0_0, .int .i64 a0_1, .int .i64 a0_2, .int .i64 a0_3, .int .i64 a0_4, .int .i64 a0_5, .int .i64 a0_6, .int .i64 a0_7, .int .i64 a0_8, .slice A0_9 l0_9.length c0_9] 66 (0, 0)) (by (with_reducible repeat (first | refine blk_drewN ?_ _ | refine blk_drew ?_ | refine blk_alloc ?_ _)); refine blk_far ?_ NB777_787.out _; (with_reducible repeat (first | refine blk_drewN ?_ _ | refine blk_drew ?_ | refine blk_alloc ?_ _)); exact BK777.out) hb); replace BK787 := Aside0.mk (blk_below (g := gb787) (o := .cells #[.int .i64 (rd t778 x24_1), .int .i64 (rd t778 (ji16)), .int .i64 t788, .int .i64 0, .int .i64 0] 81 (0, 0)) (by (with_reducible repeat (first | refine blk_drewN ?_ _ | refine blk_drew ?_ | refine blk_alloc ?_ _)); refine blk_put (cs := #[.int .i64 (rd t778 x24_1), .int .i64 (rd t778 (ji16)), .int .i64 0, .int .i64 0, .int .i64 0]) ?_ 2 _ rfl; (with_reducible repeat (first | refine blk_drewN ?_ _ | refine blk_drew ?_ | refine blk_alloc ?_ _)); exact BK787.out) hb); replace HB := bS hb; (try clear hb); (try clear hb2); (try clear hk); (try clear hi); obtain ⟨_,_,_,_,_,_,_,_,_,_⟩ := blk5 BK787; obtain ⟨_,_,_,_,_,_,_,_,_,_,_,_,_,_,_,_,_,_,_,_⟩ := blk10 BK777) | ((with_reducible refine gate_builtin (b := .append) (xs := #[.tmp 85, .tmp 87]) rfl ?_); at_builtin; refine Kd.R_append k81 (w0 := w) w.heap.size rfl (.tmp 85) (.tmp 87) 74 81 (.agg #[(.int .i64 0), (.int .i64 0), (.int .i64 0), (.int .i64 0), (.int .i64 0)]) 40 rfl Try.underlying74 info81 rfl (by decide) (by omega) u6 x6_1 (⟨rd t778 x24_1, rd t778 (ji16), t788, t790, t790⟩ : S81) [.int .i64 (rd t778 x24_1), .int .i64 (rd t778 (ji16)), .int .i64 t788, .int .i64 t790, .int .i64 t790] (fun k_ => k_ ≠ gb787) (fun _ => False) rfl (by first | (go_simp; done) | (go_simp; rfl)) ?aP (fun _ hk => hk.elim) ?aF ?aO ?aB ?aS ?aL ?_; (case aP => exact k81_mkM _ _ _ (⟨rd t778 x24_1, rd t778 (ji16), t788, t790, t790⟩ : S81)); (case aB => exact bB); (case aF => exact (fun k_ hk => Kd.freshB (g := gb787) (o := .cells #[.int .i64 (rd t778 x24_1), .int .i64 (rd t778 (ji16)), .int .i64 t788, .int .i64 t790, .int .i64 t790] 81 (0, 0)) (by (with_reducible repeat (first | refine blk_drewN ?_ _ | refine blk_drew ?_ | refine blk_alloc ?_ _)); refine blk_put (cs := #[.int .i64 (rd t778 x24_1), .int .i64 (rd t778 (ji16)), .int .i64 t788, .int .i64 t790, .int .i64 0]) ?_ 4 _ rfl; (with_reducible repeat (first | refine blk_drewN ?_ _ | refine blk_drew ?_ | refine blk_alloc ?_ _)); refine blk_put (cs := #[.int .i64 (rd t778 x24_1), .int .i64 (rd t778 (ji16)), .int .i64 t788, .int .i64 0, .int .i64 0]) ?_ 3 _ rfl; (with_reducible repeat (first | refine blk_drewN ?_ _ | refine blk_drew ?_ | refine blk_alloc ?_ _)); exact BK787.out) k_ hk)); (case aO => exact (by (with_reducible repeat (first | apply Kd.R_alloc | apply Kd.R_drewN | apply Kd.R_drew)); exact Kd.R_mono (Kd.R_far (p := ⟨gb787, 4, none⟩) (Kd.R_far (p := ⟨gb787, 3, none⟩) (Kd.R_mono HO_6.out (fun k_ hk => (⟨hk, hk.2⟩ : _ ∧ k_ ≠ gb787))) (fun _ hk => hk.2) (.int .i64 t790)) (fun _ hk => hk.2) (.int .i64 t790)) (fun _ hk => hk.1.2))); (case aS => exact (below_size bB)); (case aL => have := LMc64.out; omega); intro v798 w81 ho hb hg hat; rw [← Ny797.out] at ho; replace HO_4 := Aside0.mk (Kd.R_over' (by (with_reducible repeat (first | apply Kd.R_alloc | apply Kd.R_drewN | apply Kd.R_drew)); exact (Kd.R_mono (Kd.R_far (p := ⟨gb787, 4, none⟩) (Kd.R_far (p := ⟨gb787, 3, none⟩) (Kd.R_types HO_4.out BK787.out (by decide)) (fun _ hk => hk.2) (.int .i64 t790)) (fun _ hk => hk.2) (.int .i64 t790)) (fun _ h_ => h_.1))) (Kd.R_typed (by (with_reducible repeat (first | apply Kd.R_alloc | apply Kd.R_drewN | apply Kd.R_drew)); exact (Kd.R_mono (Kd.R_far (p := ⟨gb787, 4, none⟩) (Kd.R_far (p := ⟨gb787, 3, none⟩) (Kd.R_mono HO_6.out (fun k_ hk => (⟨hk, hk.2⟩ : _ ∧ k_ ≠ gb787))) (fun _ hk => hk.2) (.int .i64 t790)) (fun _ hk => hk.2) (.int .i64 t790)) (fun _ h_ => h_.1)))) (by decide) hg); replace BK777 := Aside0.mk (blk_grown (g := gb777) (o := .cells #[.int .i64 a0_0, .int .i64 a0_1, .int .i64 a0_2, .int .i64 a0_3, .int .i64 a0_4, .int .i64 a0_5, .int .i64 a0_6, .int .i64 a0_7, .int .i64 a0_8, .slice A0_9 l0_9.length c0_9] 66 (0, 0)) (by (with_reducible repeat (first | refine blk_drewN ?_ _ | refine blk_drew ?_ | refine blk_alloc ?_ _)); refine blk_far ?_ NB777_787.out _; (with_reducible repeat (first | refine blk_drewN ?_ _ | refine blk_drew ?_ | refine blk_alloc ?_ _)); refine blk_far ?_ NB777_787.out _; (with_reducible repeat (first | refine blk_drewN ?_ _ | refine blk_drew ?_ | refine blk_alloc ?_ _)); exact BK777.out) hg (Kd.R_ne HO_6.out BK777.out (by decide))); replace BK787 := Aside0.mk (blk_grown (g := gb787) (o := .cells #[.int .i64 (rd t778 x24_1), .int .i64 (rd t778 (ji16)), .int .i64 t788, .int .i64 t790, .int .i64 t790] 81 (0, 0)) (by (with_reducible repeat (first | refine blk_drewN ?_ _ | refine blk_drew ?_ | refine blk_alloc ?_ _)); refine blk_put (cs := #[.int .i64 (rd t778 x24_1), .int .i64 (rd t778 (ji16)), .int .i64 t788, .int .i64 t790, .int .i64 0]) ?_ 4 _ rfl; (with_reducible repeat (first | refine blk_drewN ?_ _ | refine blk_drew ?_ | refine blk_alloc ?_ _)); refine blk_put (cs := #[.int .i64 (rd t778 x24_1), .int .i64 (rd t778 (ji16)), .int .i64 t788, .int .i64 0, .int .i64 0]) ?_ 3 _ rfl; (with_reducible repeat (first | refine blk_drewN ?_ _ | refine blk_drew ?_ | refine blk_alloc ?_ _)); exact BK787.out) hg (Kd.R_away HO_6.out (fun _ hk => hk.2))); replace HB := Aside0.mk (hb); have HO799 := Aside0.mk (ho); clear HO_6; clear ho hb hg hat))
               go_roundg k1
               case measure => have := HK1.out; omega
               case rel => exact ⟨(y797), (ji16), (by first | rfl | (simp; done) | (simp only [← hji16] <;> (first | rfl | simp)) | (simp [*]; done)), H', ⟨by have := HK1.out; omega⟩, ⟨(bR HO_4)⟩, ⟨by (with_reducible repeat (first | apply Kd.R_alloc | apply Kd.R_drewN | apply Kd.R_drew)); exact Kd.R_mono HO799.out (fun _ hk => trivial)⟩, ⟨(bk BK777)⟩, ⟨bB⟩⟩
              ·
               rw [if_neg c64] at H
               exact absurd H (by simp)
            ·
             rw [if_neg c22] at H
             have c22b0 : (t791 == 0) = false := beq_eq_false_iff_ne.mpr c22
             have c22b1 : (t791 != 0) = true := bne_iff_ne.mpr c22
             simp only [Option.some.injEq, Prod.mk.injEq] at H
             obtain ⟨rfl, rfl⟩ := H
             try go_wp2_with (first | ((with_reducible refine gG 38 ?_); refine goA (some 44) Try.func38 #[.agg #[.int .i64 a0_8, .slice A0_9 l0_9.length c0_9], .int .i64 (rd t778 x24_1), .int .i64 a0_6] ?_; (with_reducible refine (cal_Adjust.calls a0_8 _ _ l0_9 (rd t778 x24_1) a0_6 t788 t789 _ ?side1 ?side2 A19.out).mono ?_); (case side1 => exact Kd.C_below HR0_9.out bB); (case side2 => exact HC0_9.out); rintro e w92 ⟨rfl, hb⟩; refine ⟨_, rfl, ?_⟩; replace HO_4 := Aside0.mk (Kd.R_below (by (with_reducible repeat (first | apply Kd.R_alloc | apply Kd.R_drewN | apply Kd.R_drew)); exact (Kd.R_mono (Kd.R_far (p := ⟨gb787, 4, none⟩) (Kd.R_far (p := ⟨gb787, 3, none⟩) (Kd.R_far (p := ⟨gb787, 2, none⟩) (Kd.R_far (p := ⟨gb787, 1, none⟩) (Kd.R_far (p := ⟨gb787, 0, none⟩) (Kd.R_types HO_4.out BK787.out (by decide)) (fun _ hk => hk.2) (.int .i64 (rd t778 x24_1))) (fun _ hk => hk.2) (.int .i64 (rd t778 (ji16)))) (fun _ hk => hk.2) (.int .i64 0)) (fun _ hk => hk.2) (.int .i64 0)) (fun _ hk => hk.2) (.int .i64 0)) (fun _ h_ => h_.1))) hb); replace HO_6 := Aside0.mk (Kd.R_below (by (with_reducible repeat (first | apply Kd.R_alloc | apply Kd.R_drewN | apply Kd.R_drew)); exact (Kd.R_mono (Kd.R_far (p := ⟨gb787, 4, none⟩) (Kd.R_far (p := ⟨gb787, 3, none⟩) (Kd.R_far (p := ⟨gb787, 2, none⟩) (Kd.R_far (p := ⟨gb787, 1, none⟩) (Kd.R_far (p := ⟨gb787, 0, none⟩) (Kd.R_mono HO_6.out (fun k_ hk => (⟨hk, hk.2⟩ : _ ∧ k_ ≠ gb787))) (fun _ hk => hk.2) (.int .i64 (rd t778 x24_1))) (fun _ hk => hk.2) (.int .i64 (rd t778 (ji16)))) (fun _ hk => hk.2) (.int .i64 0)) (fun _ hk => hk.2) (.int .i64 0)) (fun _ hk => hk.2) (.int .i64 0)) (fun _ h_ => h_.1))) hb); replace BK777 := Aside0.mk (blk_below (g := gb777) (o := .cells #[.int .i64 a0_0, .int .i64 a0_1, .int .i64 a0_2, .int .i64 a0_3, .int .i64 a0_4, .int .i64 a0_5, .int .i64 a0_6, .int .i64 a0_7, .int .i64 a0_8, .slice A0_9 l0_9.length c0_9] 66 (0, 0)) (by (with_reducible repeat (first | refine blk_drewN ?_ _ | refine blk_drew ?_ | refine blk_alloc ?_ _)); refine blk_far ?_ NB777_787.out _; (with_reducible repeat (first | refine blk_drewN ?_ _ | refine blk_drew ?_ | refine blk_alloc ?_ _)); refine blk_far ?_ NB777_787.out _; (with_reducible repeat (first | refine blk_drewN ?_ _ | refine blk_drew ?_ | refine blk_alloc ?_ _)); refine blk_far ?_ NB777_787.out _; (with_reducible repeat (first | refine blk_drewN ?_ _ | refine blk_drew ?_ | refine blk_alloc ?_ _)); refine blk_far ?_ NB777_787.out _; (with_reducible repeat (first | refine blk_drewN ?_ _ | refine blk_drew ?_ | refine blk_alloc ?_ _)); refine blk_far ?_ NB777_787.out _; (with_reducible repeat (first | refine blk_drewN ?_ _ | refine blk_drew ?_ | refine blk_alloc ?_ _)); exact BK777.out) hb); replace BK787 := Aside0.mk (blk_below (g := gb787) (o := .cells #[.int .i64 (rd t778 x24_1), .int .i64 (rd t778 (ji16)), .int .i64 0, .int .i64 0, .int .i64 0] 81 (0, 0)) (by (with_reducible repeat (first | refine blk_drewN ?_ _ | refine blk_drew ?_ | refine blk_alloc ?_ _)); refine blk_put (cs := #[.int .i64 (rd t778 x24_1), .int .i64 (rd t778 (ji16)), .int .i64 0, .int .i64 0, .int .i64 0]) ?_ 4 _ rfl; (with_reducible repeat (first | refine blk_drewN ?_ _ | refine blk_drew ?_ | refine blk_alloc ?_ _)); refine blk_put (cs := #[.int .i64 (rd t778 x24_1), .int .i64 (rd t778 (ji16)), .int .i64 0, .int .i64 0, .int .i64 0]) ?_ 3 _ rfl; (with_reducible repeat (first | refine blk_drewN ?_ _ | refine blk_drew ?_ | refine blk_alloc ?_ _)); refine blk_put (cs := #[.int .i64 (rd t778 x24_1), .int .i64 (rd t778 (ji16)), .int .i64 0, .int .i64 0, .int .i64 0]) ?_ 2 _ rfl; (with_reducible repeat (first | refine blk_drewN ?_ _ | refine blk_drew ?_ | refine blk_alloc ?_ _)); refine blk_put (cs := #[.int .i64 (rd t778 x24_1), .int .i64 0, .int .i64 0, .int .i64 0, .int .i64 0]) ?_ 1 _ rfl; (with_reducible repeat (first | refine blk_drewN ?_ _ | refine blk_drew ?_ | refine blk_alloc ?_ _)); refine blk_put (cs := #[.int .i64 0, .int .i64 0, .int .i64 0, .int .i64 0, .int .i64 0]) ?_ 0 _ rfl; (with_reducible repeat (first | refine blk_drewN ?_ _ | refine blk_drew ?_ | refine blk_alloc ?_ _)); exact BK787.out) hb); replace HB := bS hb; (try clear hb); (try clear hb2); (try clear hk); (try clear hi); obtain ⟨_,_,_,_,_,_,_,_,_,_⟩ := blk5 BK787; obtain ⟨_,_,_,_,_,_,_,_,_,_,_,_,_,_,_,_,_,_,_,_⟩ := blk10 BK777) | ((with_reducible refine gate_callee (f := 38) rfl ?_); refine goesL_ (some 58) rfl rfl Try.func38 (by kernel_rfl) rfl #[.agg #[.int .i64 a0_8, .slice A0_9 l0_9.length c0_9], .int .i64 (rd t778 (ji16)), .int .i64 a0_6] rfl (by (try simp only [List.map_toArray, List.map_cons, List.map_nil]); first | done | (simp only [hji16]; rfl) | rfl | (simp only [List.length_drop, List.length_take]; rfl)) ?_; (with_reducible refine (cal_Adjust.calls a0_8 _ _ l0_9 (rd t778 (ji16)) a0_6 t790 t791 _ ?side1 ?side2 A21.out).mono ?_); (case side1 => exact Kd.C_below HR0_9.out bB); (case side2 => exact HC0_9.out); rintro e w95 ⟨rfl, hb⟩; refine ⟨_, rfl, ?_⟩; replace HO_4 := Aside0.mk (Kd.R_below (by (with_reducible repeat (first | apply Kd.R_alloc | apply Kd.R_drewN | apply Kd.R_drew)); exact (Kd.R_mono (Kd.R_far (p := ⟨gb787, 2, none⟩) (Kd.R_types HO_4.out BK787.out (by decide)) (fun _ hk => hk.2) (.int .i64 t788)) (fun _ h_ => h_.1))) hb); replace HO_6 := Aside0.mk (Kd.R_below (by (with_reducible repeat (first | apply Kd.R_alloc | apply Kd.R_drewN | apply Kd.R_drew)); exact (Kd.R_mono (Kd.R_far (p := ⟨gb787, 2, none⟩) (Kd.R_mono HO_6.out (fun k_ hk => (⟨hk, hk.2⟩ : _ ∧ k_ ≠ gb787))) (fun _ hk => hk.2) (.int .i64 t788)) (fun _ h_ => h_.1))) hb); replace BK777 := Aside0.mk (blk_below (g := gb777) (o := .cells #[.int .i64 a0_0, .int .i64 a0_1, .int .i64 a0_2, .int .i64 a0_3, .int .i64 a0_4, .int .i64 a0_5, .int .i64 a0_6, .int .i64 a0_7, .int .i64 a0_8, .slice A0_9 l0_9.length c0_9] 66 (0, 0)) (by (with_reducible repeat (first | refine blk_drewN ?_ _ | refine blk_drew ?_ | refine blk_alloc ?_ _)); refine blk_far ?_ NB777_787.out _; (with_reducible repeat (first | refine blk_drewN ?_ _ | refine blk_drew ?_ | refine blk_alloc ?_ _)); exact BK777.out) hb); replace BK787 := Aside0.mk (blk_below (g := gb787) (o := .cells #[.int .i64 (rd t778 x24_1), .int .i64 (rd t778 (ji16)), .int .i64 t788, .int .i64 0, .int .i64 0] 81 (0, 0)) (by (with_reducible repeat (first | refine blk_drewN ?_ _ | refine blk_drew ?_ | refine blk_alloc ?_ _)); refine blk_put (cs := #[.int .i64 (rd t778 x24_1), .int .i64 (rd t778 (ji16)), .int .i64 0, .int .i64 0, .int .i64 0]) ?_ 2 _ rfl; (with_reducible repeat (first | refine blk_drewN ?_ _ | refine blk_drew ?_ | refine blk_alloc ?_ _)); exact BK787.out) hb); replace HB := bS hb; (try clear hb); (try clear hb2); (try clear hk); (try clear hi); obtain ⟨_,_,_,_,_,_,_,_,_,_⟩ := blk5 BK787))
             go_ret2
             exact ⟨_, by first | rfl | (simp [errW_none, errW_some] <;> rfl) | (simp only [← hji4, ← hji16]; first | rfl | (simp [errW_none, errW_some] <;> rfl)) | (simp [*, errW_none, errW_some] <;> rfl), by first | exact Kd.R_nil _ _ _ _ _ | exact Kd.N_nil _ _ _ _ _ | exact Kd.V_nil _ _ _ _ _ | exact Kd.Q_nil _ _ _ _ _ | exact Kd.S_nil _ _ _ _ _, bB⟩
           ·
            rw [if_neg c20] at H
            have c20b0 : (t789 == 0) = false := beq_eq_false_iff_ne.mpr c20
            have c20b1 : (t789 != 0) = true := bne_iff_ne.mpr c20
            simp only [Option.some.injEq, Prod.mk.injEq] at H
            obtain ⟨rfl, rfl⟩ := H
            try go_wp2_with (first | ((with_reducible refine gG 38 ?_); refine goA (some 44) Try.func38 #[.agg #[.int .i64 a0_8, .slice A0_9 l0_9.length c0_9], .int .i64 (rd t778 x24_1), .int .i64 a0_6] ?_; (with_reducible refine (cal_Adjust.calls a0_8 _ _ l0_9 (rd t778 x24_1) a0_6 t788 t789 _ ?side1 ?side2 A19.out).mono ?_); (case side1 => exact Kd.C_below HR0_9.out bB); (case side2 => exact HC0_9.out); rintro e w107 ⟨rfl, hb⟩; refine ⟨_, rfl, ?_⟩; replace HO_4 := Aside0.mk (Kd.R_below (by (with_reducible repeat (first | apply Kd.R_alloc | apply Kd.R_drewN | apply Kd.R_drew)); exact (Kd.R_mono (Kd.R_far (p := ⟨gb787, 4, none⟩) (Kd.R_far (p := ⟨gb787, 3, none⟩) (Kd.R_far (p := ⟨gb787, 2, none⟩) (Kd.R_far (p := ⟨gb787, 1, none⟩) (Kd.R_far (p := ⟨gb787, 0, none⟩) (Kd.R_types HO_4.out BK787.out (by decide)) (fun _ hk => hk.2) (.int .i64 (rd t778 x24_1))) (fun _ hk => hk.2) (.int .i64 (rd t778 (ji16)))) (fun _ hk => hk.2) (.int .i64 0)) (fun _ hk => hk.2) (.int .i64 0)) (fun _ hk => hk.2) (.int .i64 0)) (fun _ h_ => h_.1))) hb); replace HO_6 := Aside0.mk (Kd.R_below (by (with_reducible repeat (first | apply Kd.R_alloc | apply Kd.R_drewN | apply Kd.R_drew)); exact (Kd.R_mono (Kd.R_far (p := ⟨gb787, 4, none⟩) (Kd.R_far (p := ⟨gb787, 3, none⟩) (Kd.R_far (p := ⟨gb787, 2, none⟩) (Kd.R_far (p := ⟨gb787, 1, none⟩) (Kd.R_far (p := ⟨gb787, 0, none⟩) (Kd.R_mono HO_6.out (fun k_ hk => (⟨hk, hk.2⟩ : _ ∧ k_ ≠ gb787))) (fun _ hk => hk.2) (.int .i64 (rd t778 x24_1))) (fun _ hk => hk.2) (.int .i64 (rd t778 (ji16)))) (fun _ hk => hk.2) (.int .i64 0)) (fun _ hk => hk.2) (.int .i64 0)) (fun _ hk => hk.2) (.int .i64 0)) (fun _ h_ => h_.1))) hb); replace BK777 := Aside0.mk (blk_below (g := gb777) (o := .cells #[.int .i64 a0_0, .int .i64 a0_1, .int .i64 a0_2, .int .i64 a0_3, .int .i64 a0_4, .int .i64 a0_5, .int .i64 a0_6, .int .i64 a0_7, .int .i64 a0_8, .slice A0_9 l0_9.length c0_9] 66 (0, 0)) (by (with_reducible repeat (first | refine blk_drewN ?_ _ | refine blk_drew ?_ | refine blk_alloc ?_ _)); refine blk_far ?_ NB777_787.out _; (with_reducible repeat (first | refine blk_drewN ?_ _ | refine blk_drew ?_ | refine blk_alloc ?_ _)); refine blk_far ?_ NB777_787.out _; (with_reducible repeat (first | refine blk_drewN ?_ _ | refine blk_drew ?_ | refine blk_alloc ?_ _)); refine blk_far ?_ NB777_787.out _; (with_reducible repeat (first | refine blk_drewN ?_ _ | refine blk_drew ?_ | refine blk_alloc ?_ _)); refine blk_far ?_ NB777_787.out _; (with_reducible repeat (first | refine blk_drewN ?_ _ | refine blk_drew ?_ | refine blk_alloc ?_ _)); refine blk_far ?_ NB777_787.out _; (with_reducible repeat (first | refine blk_drewN ?_ _ | refine blk_drew ?_ | refine blk_alloc ?_ _)); exact BK777.out) hb); replace BK787 := Aside0.mk (blk_below (g := gb787) (o := .cells #[.int .i64 (rd t778 x24_1), .int .i64 (rd t778 (ji16)), .int .i64 0, .int .i64 0, .int .i64 0] 81 (0, 0)) (by (with_reducible repeat (first | refine blk_drewN ?_ _ | refine blk_drew ?_ | refine blk_alloc ?_ _)); refine blk_put (cs := #[.int .i64 (rd t778 x24_1), .int .i64 (rd t778 (ji16)), .int .i64 0, .int .i64 0, .int .i64 0]) ?_ 4 _ rfl; (with_reducible repeat (first | refine blk_drewN ?_ _ | refine blk_drew ?_ | refine blk_alloc ?_ _)); refine blk_put (cs := #[.int .i64 (rd t778 x24_1), .int .i64 (rd t778 (ji16)), .int .i64 0, .int .i64 0, .int .i64 0]) ?_ 3 _ rfl; (with_reducible repeat (first | refine blk_drewN ?_ _ | refine blk_drew ?_ | refine blk_alloc ?_ _)); refine blk_put (cs := #[.int .i64 (rd t778 x24_1), .int .i64 (rd t778 (ji16)), .int .i64 0, .int .i64 0, .int .i64 0]) ?_ 2 _ rfl; (with_reducible repeat (first | refine blk_drewN ?_ _ | refine blk_drew ?_ | refine blk_alloc ?_ _)); refine blk_put (cs := #[.int .i64 (rd t778 x24_1), .int .i64 0, .int .i64 0, .int .i64 0, .int .i64 0]) ?_ 1 _ rfl; (with_reducible repeat (first | refine blk_drewN ?_ _ | refine blk_drew ?_ | refine blk_alloc ?_ _)); refine blk_put (cs := #[.int .i64 0, .int .i64 0, .int .i64 0, .int .i64 0, .int .i64 0]) ?_ 0 _ rfl; (with_reducible repeat (first | refine blk_drewN ?_ _ | refine blk_drew ?_ | refine blk_alloc ?_ _)); exact BK787.out) hb); replace HB := bS hb; (try clear hb); (try clear hb2); (try clear hk); (try clear hi); obtain ⟨_,_,_,_,_,_,_,_,_,_⟩ := blk5 BK787))
            go_ret2
            exact ⟨_, by first | rfl | (simp [errW_none, errW_some] <;> rfl) | (simp only [← hji4, ← hji16]; first | rfl | (simp [errW_none, errW_some] <;> rfl)) | (simp [*, errW_none, errW_some] <;> rfl), by first | exact Kd.R_nil _ _ _ _ _ | exact Kd.N_nil _ _ _ _ _ | exact Kd.V_nil _ _ _ _ _ | exact Kd.Q_nil _ _ _ _ _ | exact Kd.S_nil _ _ _ _ _, bB⟩
          ·
           rw [if_neg c18] at H
           exact absurd H (by simp)
         ·
          rw [if_neg c17] at H
          exact absurd H (by simp)
        ·
         rw [if_neg c15] at H
         exact absurd H (by simp)
       ·
        rw [if_neg c14] at H
        exact absurd H (by simp)
      ·
       rw [if_neg c13] at H
       have c13b0 : decide (x24_1 < ji4) = false := decide_eq_false c13
       clear c13
       simp only [Option.some.injEq, Prod.mk.injEq] at H
       obtain ⟨rfl, rfl⟩ := H
       go_wp2
       go_ret2
       exact ⟨_, by first | rfl | (simp [errW_none, errW_some] <;> rfl) | (simp only [← hji4]; first | rfl | (simp [errW_none, errW_some] <;> rfl)) | (simp [*, errW_none, errW_some] <;> rfl), (bR HO_6), bB⟩
   ·
    rw [if_neg c6] at H
    exact absurd H (by simp)
  ·
   rw [if_neg c5] at H
   exact absurd H (by simp)
 ·
  rw [if_neg c3] at H
  have c3b0 : (t781 == 0) = false := beq_eq_false_iff_ne.mpr c3
  have c3b1 : (t781 != 0) = true := bne_iff_ne.mpr c3
  simp only [Option.some.injEq, Prod.mk.injEq] at H
  obtain ⟨rfl, rfl⟩ := H
  go_enter Try.func54, Try.ntmps54
  go_wp2_with (first | ((with_reducible refine gate_dst (N := 1) rfl ?_); refine box_event ?hg (N := 1) ?hd (cs := #[.int .i64 a0_0, .int .i64 a0_1, .int .i64 a0_2, .int .i64 a0_3, .int .i64 a0_4, .int .i64 a0_5, .int .i64 a0_6, .int .i64 a0_7, .int .i64 a0_8, .slice A0_9 l0_9.length c0_9]) (t := 66) ?hr ?_; (case hd => rfl); (case hg => rfl); (case hr => first | (go_simp; done) | (go_simp; rfl)); intro gb777 hg w109 hbox hb; have BK777 := Aside0.mk (hbox); have GW777 := bG hg; have GE777 := bG hg; replace HB := bS hb; clear hb hbox hg; obtain ⟨_,_,_,_,_,_,_,_,_,_,_,_,_,_,_,_,_,_,_,_⟩ := blk10 BK777) | ((with_reducible refine gG 50 ?_); refine goA (some 11) Try.func50 #[.agg #[.int .i64 a0_0, .int .i64 a0_1, .int .i64 a0_2, .int .i64 a0_3, .int .i64 a0_4, .int .i64 a0_5, .int .i64 a0_6, .int .i64 a0_7, .int .i64 a0_8, .slice A0_9 l0_9.length c0_9]] ?_; (with_reducible refine (sched_Dates.calls k a0_0 a0_1 a0_2 a0_3 a0_4 a0_5 a0_6 a0_7 a0_8 _ _ l0_9 t778 t781 _ ?side1 ?side2 A2.out).mono ?_); (case side1 => exact sC HR0_9); (case side2 => exact HC0_9.out); rintro e w111 ⟨v779, rfl, ho0, hb⟩; refine ⟨_, rfl, ?_⟩; have HO780 := Aside0.mk (Kd.R_lower ho0 (below_size bB)); replace BK777 := bK BK777 hb; replace HB := bS hb; (try clear hb); (try clear hb2); (try clear hk); (try clear hi); (try clear ho0)))
  go_ret2
  exact ⟨_, eW, by first | exact Kd.R_nil _ _ _ _ _ | exact Kd.N_nil _ _ _ _ _ | exact Kd.V_nil _ _ _ _ _ | exact Kd.Q_nil _ _ _ _ _ | exact Kd.S_nil _ _ _ _ _, bB⟩
end Go.Proofs.Ytoncignjcgjhhaa.Q
namespace Go.Proofs.Ytoncignjcgjhhaa.S
open Go.RowKit Go.Proofs.YtoncignjcgjhhaaW.PrintWords Go.Proofs.YtoncignjcgjhhaaW.PrintLast Go.Proofs.YtoncignjcgjhhaaW.PrintMore
open Go.Proofs.Ytoncignjcgjhhaa.Q
open Go.Proofs.Ytoncignjcgjhhaa.L (w64 td tm tm0)
def Sp.adj (s : Sp) (x : Int) : Int × Int := M.Adjust s.we (s.l.map H.ru) x s.cv
def Sp.add (s : Sp) (x : Int) : Int × Int := M.Add s.we (s.l.map H.ru) x s.lag
def Sp.per1 (s : Sp) (x y : Int) : S81 × Int :=
 if (s.adj x).2 = 0 then
  if (s.adj y).2 = 0 then
   if s.lag > 0 then
    if (s.add (s.adj y).1).2 = 0 then (⟨x, y, (s.adj x).1, (s.adj y).1, (s.add (s.adj y).1).1⟩, 0) else (z81, (s.add (s.adj y).1).2)
   else (⟨x, y, (s.adj x).1, (s.adj y).1, (s.adj y).1⟩, 0)
  else (z81, (s.adj y).2)
 else (z81, (s.adj x).2)
def Sp.perF (s : Sp) (l : List Int) : Nat → Nat → List S81 → List S81 × Int
  | 0, _, acc => (acc, 0)
  | f + 1, i, acc => if (s.per1 (rd l (i : Int)) (rd l ((i + 1 : Nat) : Int))).2 = 0 then s.perF l f (i + 1) (acc ++ [(s.per1 (rd l (i : Int)) (rd l ((i + 1 : Nat) : Int))).1]) else ([], (s.per1 (rd l (i : Int)) (rd l ((i + 1 : Nat) : Int))).2)
noncomputable def Sp.periods (s : Sp) : List S81 × Int := if s.dates.2 = 0 then s.perF s.dates.1 (s.dates.1.length - 1) 0 [] else ([], s.dates.2)
theorem sP_l0 (s : Sp) (hw : wfL s.l) (hlag : L.i64 s.lag) (l : List Int) (hl : l.length ≤ 5000) : ∀ (f i : Nat) (acc : List S81), l.length - 1 - i = f → i + 1 ≤ l.length → acc.length = i →
  Ev (fun q => sched_Periods.l0 q l acc ((l.length : Int) - 1) (i : Int) s.a s.b s.n s.u s.st s.ro s.cv s.lag s.we s.l) (s.perF l f i acc)
 | 0, i, acc, hf, hi, ha => by
  refine Ev.step (f := fun _ => some (acc, (0 : Int))) (fun q => ?_) (Ev.now _)
  rw [sched_Periods.l0, if_neg (by omega)]
 | f + 1, i, acc, hf, hi, ha => by
  have c1 : (i : Int) < (l.length : Int) - 1 := by omega
  have c0 : (0 : Int) ≤ (i : Int) := by omega
  have c2 : (i : Int) < (l.length : Int) := by omega
  have c3 : (0 : Int) ≤ ((i + 1 : Nat) : Int) := by omega
  have c4 : ((i + 1 : Nat) : Int) < (l.length : Int) := by omega
  have c5 : acc.length < 3518437208883 := by omega
  have hA : ∀ x, cal_Adjust.f s.we s.l x s.cv = some (s.adj x) := fun x => if_pos hw
  have hD : ∀ x, cal_Add.f s.we s.l x s.lag = some (s.add x) := fun x => if_pos ⟨hw, hlag⟩
  have hrec := fun p => sP_l0 s hw hlag l hl f (i + 1) (acc ++ [p]) (by omega) (by omega) (by rw [List.length_append, ha]; rfl)
  have hw1 : wrap64 ((i : Int) + 1) = ((i + 1 : Nat) : Int) := by rw [w64 (by omega) (by omega)]; push_cast; rfl
  refine Ev.step (fun q => by rw [sched_Periods.l0, if_pos c1, if_pos c0, if_pos c2, hw1, if_pos c3, if_pos c4, hA, Option.bind_some]) ?_
  unfold Sp.perF Sp.per1
  by_cases e1 : (s.adj (rd l (i : Int))).2 = 0
  ·
   rw [if_pos e1]
   refine Ev.congr (fun q => by rw [if_pos e1, hA, Option.bind_some]) ?_
   by_cases e2 : (s.adj (rd l ((i + 1 : Nat) : Int))).2 = 0
   ·
    rw [if_pos e2]
    refine Ev.congr (fun q => if_pos e2) ?_
    by_cases e3 : s.lag > 0
    ·
     rw [if_pos e3]
     refine Ev.congr (fun q => by rw [if_pos e3, hD, Option.bind_some]) ?_
     by_cases e4 : (s.add (s.adj (rd l ((i + 1 : Nat) : Int))).1).2 = 0
     ·
      rw [if_pos e4, if_pos rfl]
      exact Ev.congr (fun q => by rw [if_pos e4, if_pos c5]) (hrec _)
     ·
      rw [if_neg e4, if_neg e4]
      exact Ev.congr (fun q => if_neg e4) (Ev.now _)
    ·
     rw [if_neg e3, if_pos rfl]
     exact Ev.congr (fun q => by rw [if_neg e3, if_pos c5]) (hrec _)
   ·
    rw [if_neg e2, if_neg e2]
    exact Ev.congr (fun q => if_neg e2) (Ev.now _)
  ·
   rw [if_neg e1, if_neg e1]
   exact Ev.congr (fun q => if_neg e1) (Ev.now _)
theorem sPeriods (s : Sp) (hw : wfL s.l) : Ev (fun q => sched_Periods.f q s.a s.b s.n s.u s.st s.ro s.cv s.lag s.we s.l) s.periods := by
 refine Ev.congr (fun q => by unfold sched_Periods.f; rfl) (Ev.bind (sDates s hw) ?_)
 unfold Sp.periods
 by_cases h : s.dates.2 = 0
 ·
  obtain ⟨h2, h3⟩ := dates_two h
  obtain ⟨hc, _⟩ := dates_ok h
  have hlag := (chk_ok hc).2.1.2.2.2.2.2.2.2
  have c1 : 0 ≤ (s.dates.1.length : Int) - 1 := by omega
  have c2 : ((s.dates.1.length : Int) - 1).toNat ≤ 7036874417766 := by omega
  have hw1 : wrap64 ((s.dates.1.length : Int) - 1) = (s.dates.1.length : Int) - 1 := w64 (by omega) (by omega)
  rw [if_pos h]
  refine Ev.congr (fun q => by rw [if_pos h, hw1, if_pos c1, if_pos c2]) ?_
  exact sP_l0 s hw (by unfold L.i64; omega) _ (by omega) _ 0 [] (by omega) (by omega) rfl
 ·
  rw [if_neg h]
  exact Ev.congr (fun q => if_neg h) (Ev.now _)
end Go.Proofs.Ytoncignjcgjhhaa.S
