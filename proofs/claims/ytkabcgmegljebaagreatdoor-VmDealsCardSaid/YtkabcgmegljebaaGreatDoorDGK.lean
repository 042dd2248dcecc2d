/- Contracts and facts of functions of the program, joined in one text. -/
import Derived.Test.YtkabcgmegljebaaGreatDoorDGA
import Derived.Test.YtkabcgmegljebaaGreatDoorDGI
import Derived.Test.YtkabcgmegljebaaGreatDoorDGJ
set_option maxHeartbeats 8000000
set_option maxRecDepth 100000
set_option linter.unusedVariables false
set_option linter.unusedSimpArgs false
namespace Go.Proofs.YtkabcgmegljebaaGreatDoor.Q
open Go.RowKit Go.Proofs.YtkabcgmegljebaaGreatDoorW.PrintWords Go.Proofs.YtkabcgmegljebaaGreatDoorW.PrintLast Go.Proofs.YtkabcgmegljebaaGreatDoorW.PrintMore
attribute [local go_sem] xcP xcM xcY xcX xcF xcE xcN xcL
def xaN.l0 : Nat → List Int → List (S145) → Int → Int → Int → Int → Int → Int → Int → Int → Int → Int → Int → List (S214) → Option ((List (S145)) × Int)
  | 0, _, _, _, _, _, _, _, _, _, _, _, _, _, _ => none
  | k + 1, x4, x6, x23, x24, x946000, x946001, x946002, x946003, x946004, x946005, x946006, x946007, x946008, x946009 => if x24 < x23 then (if 0 ≤ x24 then (if x24 < (x4.length : Int) then (if 0 ≤ (wrap64 (x24 + 1)) then (if (wrap64 (x24 + 1)) < (x4.length : Int) then ((xcA.f x946008 x946009 (rd x4 x24) x946006).bind fun bt956 => (if bt956.2 = 0 then ((xcA.f x946008 x946009 (rd x4 (wrap64 (x24 + 1))) x946006).bind fun bt958 => (if bt958.2 = 0 then (if x946007 > 0 then ((xfH.f x946008 x946009 bt958.1 x946007).bind fun bt960 => (if bt960.2 = 0 then (if x6.length < 3518437208883 then (xaN.l0 k x4 (x6 ++ [(⟨rd x4 x24, rd x4 (wrap64 (x24 + 1)), bt956.1, bt958.1, bt960.1⟩ : S145)]) x23 (wrap64 (x24 + 1)) x946000 x946001 x946002 x946003 x946004 x946005 x946006 x946007 x946008 x946009) else (none)) else (some (([] : List (S145)), bt960.2)))) else (if x6.length < 3518437208883 then (xaN.l0 k x4 (x6 ++ [(⟨rd x4 x24, rd x4 (wrap64 (x24 + 1)), bt956.1, bt958.1, bt958.1⟩ : S145)]) x23 (wrap64 (x24 + 1)) x946000 x946001 x946002 x946003 x946004 x946005 x946006 x946007 x946008 x946009) else (none))) else (some (([] : List (S145)), bt958.2)))) else (some (([] : List (S145)), bt956.2)))) else (none)) else (none)) else (none)) else (none)) else (some (x6, 0))
def xaN.f (k : Nat) (a0_0 a0_1 a0_2 a0_3 a0_4 a0_5 a0_6 a0_7 a0_8 : Int) (l0_9 : List (S214)) : Option ((List (S145)) × Int) := (xaD.f k a0_0 a0_1 a0_2 a0_3 a0_4 a0_5 a0_6 a0_7 a0_8 l0_9).bind fun bt946 => (if bt946.2 = 0 then (if 0 ≤ (wrap64 ((bt946.1.length : Int) - 1)) then (if (wrap64 ((bt946.1.length : Int) - 1) : Int).toNat ≤ 7036874417766 then (xaN.l0 k bt946.1 (List.replicate 0 z145) (wrap64 ((bt946.1.length : Int) - 1)) 0 a0_0 a0_1 a0_2 a0_3 a0_4 a0_5 a0_6 a0_7 a0_8 l0_9) else (none)) else (none)) else (some (([] : List (S145)), bt946.2)))
def xaN.T8 : Bool × List (List Nat × List Nat) := (true, [([], []), ([], []), ([0, 1], [0, 1]), ([2], [2]), ([], []), ([], []), ([5], [5]), ([4, 6], [4, 6]), ([7], [7]), ([3, 8], [3, 8]), ([], []), ([10, 9, 0, 1, 2, 3, 4, 5, 6, 7, 8, 9, 10], [9, 10])])
def xaN.B8 : List Nat := [0, 0, 3, 7, 0, 0, 32, 112, 240, 511, 0, 2047]
theorem xaN.tab8 : rtab .any (opsOf Tryz.f142 8) = xaN.T8 := by kernel_rfl
theorem xaN.bits8 : xgL xaN.T8.2 xaN.B8 = true := by kernel_rfl
theorem xaN.calls (k : Nat) (a0_0 a0_1 a0_2 a0_3 a0_4 a0_5 a0_6 a0_7 a0_8 : Int) (A0_9 : Option Addr) (c0_9 : Nat) (l0_9 : List (S214)) (r1 : List (S145)) (r2 : Int) (w : World) (hr0_9 : Kd.C k214 w A0_9 l0_9.length l0_9) (hc0_9 : l0_9.length ≤ c0_9) (h : xaN.f k a0_0 a0_1 a0_2 a0_3 a0_4 a0_5 a0_6 a0_7 a0_8 l0_9 = some (r1, r2)) :
  Calls Tryz.prog 142 #[.agg #[.int .i64 a0_0, .int .i64 a0_1, .int .i64 a0_2, .int .i64 a0_3, .int .i64 a0_4, .int .i64 a0_5, .int .i64 a0_6, .int .i64 a0_7, .int .i64 a0_8, .slice A0_9 l0_9.length c0_9]] w fun e w' => ∃ v0_ : Value, e = .returned (.tuple #[v0_, .int .i64 r2]) ∧ Kd.R k145 145 w' w.heap.size (fun _ => True) v0_ r1 ∧ Below w.heap.size w w' := by
 have hu117 := Tryz.underlying117;have hu145 := Tryz.underlying145;have hu115 := Tryz.underlying115;have HR0_9 := Aside0.mk hr0_9;have HC0_9 := Aside0.mk hc0_9;clear hr0_9 hc0_9
 have HB := Aside0.mk (Below.refl w.heap.size w)
 have H : ((xaD.f k a0_0 a0_1 a0_2 a0_3 a0_4 a0_5 a0_6 a0_7 a0_8 l0_9).bind fun bt946 => (if bt946.2 = 0 then (if 0 ≤ (wrap64 ((bt946.1.length : Int) - 1)) then (if (wrap64 ((bt946.1.length : Int) - 1) : Int).toNat ≤ 7036874417766 then (xaN.l0 k bt946.1 (List.replicate 0 z145) (wrap64 ((bt946.1.length : Int) - 1)) 0 a0_0 a0_1 a0_2 a0_3 a0_4 a0_5 a0_6 a0_7 a0_8 l0_9) else (none)) else (none)) else (some (([] : List (S145)), bt946.2)))) = some (r1, r2) := h
 clear h;replace H := Option.bind_eq_some_iff.mp H
 obtain ⟨⟨t946, t949⟩, A20, H⟩ := H
 replace H : (if t949 = 0 then (if 0 ≤ (wrap64 ((t946.length : Int) - 1)) then (if (wrap64 ((t946.length : Int) - 1) : Int).toNat ≤ 7036874417766 then (xaN.l0 k t946 (List.replicate 0 z145) (wrap64 ((t946.length : Int) - 1)) 0 a0_0 a0_1 a0_2 a0_3 a0_4 a0_5 a0_6 a0_7 a0_8 l0_9) else (none)) else (none)) else (some (([] : List (S145)), t949))) = some (r1, r2) := H
 have A2 := Aside0.mk A20;clear A20
 by_cases c3 : t949 = 0
 ·
  rw [if_pos c3] at H
  have c3b0 : (t949 == 0) = true := beq_iff_eq.mpr c3
  have c3b1 : (t949 != 0) = false := bne_eq_false_iff_eq.mpr c3
  clear c3
  obtain ⟨ji4, hji4⟩ : ∃ j_ : Int, (wrap64 ((t946.length : Int) - 1)) = j_ := ⟨_, rfl⟩
  replace H : (if 0 ≤ (ji4) then (if (ji4 : Int).toNat ≤ 7036874417766 then (xaN.l0 k t946 (List.replicate 0 z145) ji4 0 a0_0 a0_1 a0_2 a0_3 a0_4 a0_5 a0_6 a0_7 a0_8 l0_9) else (none)) else (none)) = some (r1, r2) := by first | (rw [hji4] at H; exact H) | (simp only [hji4] at H ⊢; exact H)
  (try rw [hji4] at A2)
  have hji4w : (IntKind.i64.wrap ((t946.length : Int) - 1)) = ji4 := (i64_w _).trans hji4
  by_cases c5 : 0 ≤ (ji4)
  ·
   rw [if_pos c5] at H
   have c5b0 := eq_true c5
   have c5b1 : decide (0 ≤ (ji4)) = true := decide_eq_true c5
   clear c5
   by_cases c6 : (ji4 : Int).toNat ≤ 7036874417766
   ·
    rw [if_pos c6] at H
    have c6b0 := eq_true c6
    have c6b1 : decide ((ji4 : Int).toNat ≤ 7036874417766) = true := decide_eq_true c6
    clear c6
    obtain ⟨y950, hy950⟩ : ∃ y_ : List (S145), y_ = (List.replicate 0 z145) := ⟨_, rfl⟩
    replace H : (xaN.l0 k t946 y950 ji4 0 a0_0 a0_1 a0_2 a0_3 a0_4 a0_5 a0_6 a0_7 a0_8 l0_9) = some (r1, r2) := by first | (rw [hy950]; with_reducible exact H) | (have H2_ := (Option.bind_some _ _).symm.trans H; rw [hy950]; with_reducible exact H2_) | (have H2_ := (Option.bind_some _ _).symm.trans H; with_reducible exact H2_) | with_reducible exact H | (rw [hy950]; exact H) | exact H
    have Ny950 := Aside0.mk hy950;clear hy950;have H' := Aside0.mk H;clear H
    go_enter Tryz.func142, Tryz.ntmps142
    go_wp2_with (first | ((with_reducible refine xaU (N := 1) rfl ?_); refine xaT ?hg (N := 1) ?hd (cs := #[.int .i64 a0_0, .int .i64 a0_1, .int .i64 a0_2, .int .i64 a0_3, .int .i64 a0_4, .int .i64 a0_5, .int .i64 a0_6, .int .i64 a0_7, .int .i64 a0_8, .slice A0_9 l0_9.length c0_9]) (t := 117) ?hr ?_; (case hd => rfl); (case hg => rfl); (case hr => first | (go_simp; done) | (go_simp; rfl)); intro gb945 hg w7 hbox hb; have BK945 := Aside0.mk (hbox); have GW945 := bG hg; have GE945 := bG hg; replace HB := bS hb; clear hb hbox hg; obtain ⟨_,_,_,_,_,_,_,_,_,_,_,_,_,_,_,_,_,_,_,_⟩ := blk10 BK945) | ((with_reducible refine gG 162 ?_); refine goA (some 11) Tryz.func162 #[.agg #[.int .i64 a0_0, .int .i64 a0_1, .int .i64 a0_2, .int .i64 a0_3, .int .i64 a0_4, .int .i64 a0_5, .int .i64 a0_6, .int .i64 a0_7, .int .i64 a0_8, .slice A0_9 l0_9.length c0_9]] ?_; (with_reducible refine (xaD.calls k a0_0 a0_1 a0_2 a0_3 a0_4 a0_5 a0_6 a0_7 a0_8 _ _ l0_9 t946 t949 _ ?side1 ?side2 A2.out).mono ?_); (case side1 => exact sC HR0_9); (case side2 => exact HC0_9.out); rintro e w9 ⟨v947, rfl, ho0, hb⟩; refine ⟨_, rfl, ?_⟩; have HO948 := Aside0.mk (Kd.xfP ho0 (xbG bB)); replace BK945 := bK BK945 hb; replace HB := bS hb; (try clear hb); (try clear hb2); (try clear hk); (try clear hi); (try clear ho0); obtain ⟨Ao10, co10, eo10⟩ := Kd.R_slice HO948.out; subst eo10) | ((with_reducible refine xaU (N := 20) rfl ?_); refine Kd.xfN k145 _ 145 rfl (N := 20) rfl 139 _ _ rfl ji4 rfl rfl Tryz.underlying139 (.agg #[(.int .i64 0), (.int .i64 0), (.int .i64 0), (.int .i64 0), (.int .i64 0)]) 40 info145 rfl (by decide) (by omega) z145 (ok := fun _ => True) (okp := fun _ => True) (k145_mkM _ _ _ z145 ) (fun _ hk => hk) trivial (of_decide_eq_true tA) (Nat.le_trans (Nat.mul_le_mul_right _ (of_decide_eq_true tA : ji4.toNat ≤ 7036874417766)) (by omega)) (Below.refl _ _) (Nat.le_refl _) ?_; intro v951 w11 ho12 hb hg_ hnew_; clear hg_ hnew_; (first | rw [← Ny950.out] at ho12 | (simp only [Int.reduceToNat] at ho12; rw [← Ny950.out] at ho12)); replace HO948 := Aside0.mk (Kd.xbL (bR HO948) hb); have HO952 := Aside0.mk (Kd.xfP ho12 (xbG bB)); replace BK945 := bK BK945 hb; replace HB := bS hb; clear hb ho12))
    go_loopg [6, 24] k (fun kq v6 v24 w' => ∃ (x6_1 : List (S145)) (x24_1 : Int), v24 = .int .i64 x24_1 ∧ Aside0 (xaN.l0 kq t946 x6_1 ji4 x24_1 a0_0 a0_1 a0_2 a0_3 a0_4 a0_5 a0_6 a0_7 a0_8 l0_9 = some (r1, r2)) ∧ Aside0 (kq ≤ k) ∧ Aside0 (Kd.R (Kd.int .i64) 3 w' w.heap.size (fun _ => True) (.slice Ao10 t946.length co10) t946) ∧ Aside0 (Kd.R k145 145 w' w.heap.size (fun _ => True) v6 x6_1) ∧ Aside0 (w'.heap[gb945]? = some (.cells #[.int .i64 a0_0, .int .i64 a0_1, .int .i64 a0_2, .int .i64 a0_3, .int .i64 a0_4, .int .i64 a0_5, .int .i64 a0_6, .int .i64 a0_7, .int .i64 a0_8, (.slice A0_9 l0_9.length c0_9)] 117 (0, 0))) ∧ Aside0 (Below w.heap.size w w'))
    case atStart => exact ⟨(y950), (0), eS, H', ⟨Nat.le_refl _⟩, ⟨(bR HO948)⟩, ⟨(bR HO952)⟩, ⟨(bk BK945)⟩, ⟨bB⟩⟩
    case round =>
     clear H'
     obtain ⟨x6_1, x24_1, rfl, HA, HK1, HO_4, HO_6, BK945, HB⟩ := hrel
     cases gk with
     | zero => exact absurd HA.out (by simp [xaN.l0])
     | succ k1 =>
      have H := HA.out;clear HA
      simp only [xaN.l0] at H
      by_cases c13 : x24_1 < ji4
      ·
       rw [if_pos c13] at H
       have c13b0 : decide (x24_1 < ji4) = true := decide_eq_true c13
       clear c13
       by_cases c14 : 0 ≤ x24_1
       ·
        rw [if_pos c14] at H
        have c14b0 : decide (0 ≤ x24_1) = true := decide_eq_true c14
        clear c14
        by_cases c15 : x24_1 < (t946.length : Int)
        ·
         rw [if_pos c15] at H
         have c15b0 : decide (x24_1 < (t946.length : Int)) = true := decide_eq_true c15
         clear c15
         obtain ⟨ji16, hji16⟩ : ∃ j_ : Int, (wrap64 (x24_1 + 1)) = j_ := ⟨_, rfl⟩
         replace H : (if 0 ≤ (ji16) then (if (ji16) < (t946.length : Int) then ((xcA.f a0_8 l0_9 (rd t946 x24_1) a0_6).bind fun bt956 => (if bt956.2 = 0 then ((xcA.f a0_8 l0_9 (rd t946 (ji16)) a0_6).bind fun bt958 => (if bt958.2 = 0 then (if a0_7 > 0 then ((xfH.f a0_8 l0_9 bt958.1 a0_7).bind fun bt960 => (if bt960.2 = 0 then (if x6_1.length < 3518437208883 then (xaN.l0 k1 t946 (x6_1 ++ [(⟨rd t946 x24_1, rd t946 (ji16), bt956.1, bt958.1, bt960.1⟩ : S145)]) ji4 ji16 a0_0 a0_1 a0_2 a0_3 a0_4 a0_5 a0_6 a0_7 a0_8 l0_9) else (none)) else (some (([] : List (S145)), bt960.2)))) else (if x6_1.length < 3518437208883 then (xaN.l0 k1 t946 (x6_1 ++ [(⟨rd t946 x24_1, rd t946 (ji16), bt956.1, bt958.1, bt958.1⟩ : S145)]) ji4 ji16 a0_0 a0_1 a0_2 a0_3 a0_4 a0_5 a0_6 a0_7 a0_8 l0_9) else (none))) else (some (([] : List (S145)), bt958.2)))) else (some (([] : List (S145)), bt956.2)))) else (none)) else (none)) = some (r1, r2) := by first | (rw [hji16] at H; exact H) | (simp only [hji16] at H ⊢; exact H)
         have hji16w : (IntKind.i64.wrap (x24_1 + 1)) = ji16 := (i64_w _).trans hji16
         by_cases c17 : 0 ≤ (ji16)
         ·
          rw [if_pos c17] at H
          have c17b0 : decide (0 ≤ (ji16)) = true := decide_eq_true c17
          clear c17
          by_cases c18 : (ji16) < (t946.length : Int)
          ·
           rw [if_pos c18] at H
           have c18b0 : decide ((ji16) < (t946.length : Int)) = true := decide_eq_true c18
           clear c18;replace H := Option.bind_eq_some_iff.mp H
           obtain ⟨⟨t956, t957⟩, A190, H⟩ := H
           replace H : (if t957 = 0 then ((xcA.f a0_8 l0_9 (rd t946 (ji16)) a0_6).bind fun bt958 => (if bt958.2 = 0 then (if a0_7 > 0 then ((xfH.f a0_8 l0_9 bt958.1 a0_7).bind fun bt960 => (if bt960.2 = 0 then (if x6_1.length < 3518437208883 then (xaN.l0 k1 t946 (x6_1 ++ [(⟨rd t946 x24_1, rd t946 (ji16), t956, bt958.1, bt960.1⟩ : S145)]) ji4 ji16 a0_0 a0_1 a0_2 a0_3 a0_4 a0_5 a0_6 a0_7 a0_8 l0_9) else (none)) else (some (([] : List (S145)), bt960.2)))) else (if x6_1.length < 3518437208883 then (xaN.l0 k1 t946 (x6_1 ++ [(⟨rd t946 x24_1, rd t946 (ji16), t956, bt958.1, bt958.1⟩ : S145)]) ji4 ji16 a0_0 a0_1 a0_2 a0_3 a0_4 a0_5 a0_6 a0_7 a0_8 l0_9) else (none))) else (some (([] : List (S145)), bt958.2)))) else (some (([] : List (S145)), t957))) = some (r1, r2) := H
           have A19 := Aside0.mk A190;clear A190
           by_cases c20 : t957 = 0
           ·
            rw [if_pos c20] at H
            have c20b0 : (t957 == 0) = true := beq_iff_eq.mpr c20
            have c20b1 : (t957 != 0) = false := bne_eq_false_iff_eq.mpr c20
            clear c20;replace H := Option.bind_eq_some_iff.mp H
            obtain ⟨⟨t958, t959⟩, A210, H⟩ := H
            replace H : (if t959 = 0 then (if a0_7 > 0 then ((xfH.f a0_8 l0_9 t958 a0_7).bind fun bt960 => (if bt960.2 = 0 then (if x6_1.length < 3518437208883 then (xaN.l0 k1 t946 (x6_1 ++ [(⟨rd t946 x24_1, rd t946 (ji16), t956, t958, bt960.1⟩ : S145)]) ji4 ji16 a0_0 a0_1 a0_2 a0_3 a0_4 a0_5 a0_6 a0_7 a0_8 l0_9) else (none)) else (some (([] : List (S145)), bt960.2)))) else (if x6_1.length < 3518437208883 then (xaN.l0 k1 t946 (x6_1 ++ [(⟨rd t946 x24_1, rd t946 (ji16), t956, t958, t958⟩ : S145)]) ji4 ji16 a0_0 a0_1 a0_2 a0_3 a0_4 a0_5 a0_6 a0_7 a0_8 l0_9) else (none))) else (some (([] : List (S145)), t959))) = some (r1, r2) := H
            have A21 := Aside0.mk A210;clear A210
            by_cases c22 : t959 = 0
            ·
             rw [if_pos c22] at H
             have c22b0 : (t959 == 0) = true := beq_iff_eq.mpr c22
             have c22b1 : (t959 != 0) = false := bne_eq_false_iff_eq.mpr c22
             clear c22
             by_cases c23 : a0_7 > 0
             ·
              rw [if_pos c23] at H
              have c23b0 : decide (0 < a0_7) = true := decide_eq_true c23
              clear c23;replace H := Option.bind_eq_some_iff.mp H
              obtain ⟨⟨t960, t961⟩, A240, H⟩ := H
              replace H : (if t961 = 0 then (if x6_1.length < 3518437208883 then (xaN.l0 k1 t946 (x6_1 ++ [(⟨rd t946 x24_1, rd t946 (ji16), t956, t958, t960⟩ : S145)]) ji4 ji16 a0_0 a0_1 a0_2 a0_3 a0_4 a0_5 a0_6 a0_7 a0_8 l0_9) else (none)) else (some (([] : List (S145)), t961))) = some (r1, r2) := H
              have A24 := Aside0.mk A240;clear A240
              by_cases c25 : t961 = 0
              ·
               rw [if_pos c25] at H
               have c25b0 : (t961 == 0) = true := beq_iff_eq.mpr c25
               have c25b1 : (t961 != 0) = false := bne_eq_false_iff_eq.mpr c25
               clear c25
               by_cases c26 : x6_1.length < 3518437208883
               ·
                rw [if_pos c26] at H
                have LMc26 := Aside0.mk c26;clear c26
                obtain ⟨y962, hy962⟩ : ∃ y_ : List (S145), y_ = (x6_1 ++ [(⟨rd t946 x24_1, rd t946 (ji16), t956, t958, t960⟩ : S145)]) := ⟨_, rfl⟩
                replace H : (xaN.l0 k1 t946 y962 ji4 ji16 a0_0 a0_1 a0_2 a0_3 a0_4 a0_5 a0_6 a0_7 a0_8 l0_9) = some (r1, r2) := by first | (rw [hy962]; with_reducible exact H) | (have H2_ := (Option.bind_some _ _).symm.trans H; rw [hy962]; with_reducible exact H2_) | (have H2_ := (Option.bind_some _ _).symm.trans H; with_reducible exact H2_) | with_reducible exact H | (rw [hy962]; exact H) | exact H
                have Ny962 := Aside0.mk hy962;clear hy962;have H' := Aside0.mk H;clear H
                try go_wp2
                replace HO_4 := Aside0.mk (Kd.R_drew HO_4.out)
                replace HO_6 := Aside0.mk (Kd.R_drew HO_6.out)
                replace BK945 := Aside0.mk (xaF BK945.out)
                replace HB := Aside0.mk (xaM HB.out)
                have p953 : 0 ≤ (x24_1 : Int) := of_decide_eq_true tA
                have q953 : x24_1 < (t946.length : Int) := of_decide_eq_true tA
                obtain ⟨ad953, e953, hx953_0⟩ := Kd.at_int (Kd.R_reads' HO_4.out).2.2 x24_1 p953 q953
                cases e953
                replace p953 := eq_true p953;replace q953 := eq_true q953
                have p954 : 0 ≤ ((ji16) : Int) := of_decide_eq_true tA
                have q954 : (ji16) < (t946.length : Int) := of_decide_eq_true tA
                obtain ⟨ad954, e954, hx954_0⟩ := Kd.at_int (Kd.R_reads' HO_4.out).2.2 (ji16) p954 q954
                obtain rfl : ad953 = ad954 := (by injection e954)
                replace p954 := eq_true p954;replace q954 := eq_true q954
                refine start_ (n := 12) (S := fun w' => w'.cell? (ad953.add (x24_1).toNat) = some (.int .i64 (rd t946 x24_1)) ∧ w'.cell? (ad953.add ((ji16)).toNat) = some (.int .i64 (rd t946 (ji16)))) (ds := []) #[false, false, false, false, false, false, false, false, false, false, false, false] (by kernel_rfl) rfl rfl ⟨hx953_0, hx954_0⟩ (fun hHeld => ?_); refine xeP xaN.tab8 xaN.bits8 (fun HT_ HW_ => ?_)
                generalize wr.drew = w27 at HO_4 HO_6 BK945 HB hx953_0 hx954_0 hHeld ⊢
                refine pure_ (i := 0) (N := some 27) (v := ?_) (a' := ?_) #[true, false, false, false, false, false, false, false, false, false, false, false] rfl rfl (any_of HT_.out (by kernel_rfl)) (fun _ _ _ h => h) (Or.inl ⟨by rfl, ?_⟩) ?_ ?_
                rotate_left
                ·
                 intro w'
                 go_simp
                 with_reducible rfl
                rotate_left
                ·
                 simp only [Act.put, List.setIfInBounds_toArray, List.set_cons_zero, List.set_cons_succ, i64_w, i32_w]
                 rfl
                refine pure_ (i := 1) (N := some 28) (v := ?_) (a' := ?_) #[true, true, false, false, false, false, false, false, false, false, false, false] rfl rfl (any_of HT_.out (by kernel_rfl)) (fun _ _ _ h => h) (Or.inl ⟨by rfl, ?_⟩) ?_ ?_
                rotate_left
                ·
                 intro w'
                 go_simp
                 with_reducible rfl
                rotate_left
                ·
                 simp only [Act.put, List.setIfInBounds_toArray, List.set_cons_zero, List.set_cons_succ, i64_w, i32_w]
                 rfl
                refine pure_ (i := 2) (N := some 29) (v := ?_) (a' := ?_) #[true, true, true, false, false, false, false, false, false, false, false, false] rfl rfl (any_of HT_.out (by kernel_rfl)) (fun _ _ _ h => h) (Or.inl ⟨by rfl, ?_⟩) ?_ ?_
                rotate_left
                ·
                 intro w'
                 go_simp
                 with_reducible rfl
                rotate_left
                ·
                 simp only [Act.put, List.setIfInBounds_toArray, List.set_cons_zero, List.set_cons_succ, i64_w, i32_w]
                 rfl
                refine pure_ (i := 4) (N := some 31) (v := ?_) (a' := ?_) #[true, true, true, false, true, false, false, false, false, false, false, false] rfl rfl (any_of HT_.out (by kernel_rfl)) (fun _ _ _ h => h) (Or.inl ⟨by rfl, ?_⟩) ?_ ?_
                rotate_left
                ·
                 intro w'
                 go_simp
                 with_reducible rfl
                rotate_left
                ·
                 simp only [Act.put, List.setIfInBounds_toArray, List.set_cons_zero, List.set_cons_succ, i64_w, i32_w]
                 rfl
                refine pure_ (i := 5) (N := some 32) (v := ?_) (a' := ?_) #[true, true, true, false, true, true, false, false, false, false, false, false] rfl rfl (any_of HT_.out (by kernel_rfl)) (fun _ _ _ h => h) (Or.inl ⟨by rfl, ?_⟩) ?_ ?_
                rotate_left
                ·
                 intro w'
                 go_simp
                 with_reducible rfl
                rotate_left
                ·
                 simp only [Act.put, List.setIfInBounds_toArray, List.set_cons_zero, List.set_cons_succ, i64_w, i32_w]
                 rfl
                refine pure_ (i := 6) (N := some 33) (v := ?_) (a' := ?_) #[true, true, true, false, true, true, true, false, false, false, false, false] rfl rfl (any_of HT_.out (by kernel_rfl)) (fun _ _ _ h => h) (Or.inl ⟨by rfl, ?_⟩) ?_ ?_
                rotate_left
                ·
                 intro w'
                 go_simp
                 with_reducible rfl
                rotate_left
                ·
                 simp only [Act.put, List.setIfInBounds_toArray, List.set_cons_zero, List.set_cons_succ, i64_w, i32_w]
                 rfl
                refine pure_ (i := 7) (N := some 34) (v := ?_) (a' := ?_) #[true, true, true, false, true, true, true, true, false, false, false, false] rfl rfl (any_of HT_.out (by kernel_rfl)) (fun _ _ _ h => h) (Or.inl ⟨by rfl, ?_⟩) ?_ ?_
                rotate_left
                ·
                 intro w'
                 go_simp
                 with_reducible rfl
                rotate_left
                ·
                 simp only [Act.put, List.setIfInBounds_toArray, List.set_cons_zero, List.set_cons_succ, i64_w, i32_w]
                 rfl
                refine take_ (i := 3) (N := some 30) (v := ?_) (a' := ?_) #[true, true, true, true, true, true, true, true, false, false, false, false] rfl rfl (xdF HT_.out HW_.out (by kernel_rfl)) (fun _ _ _ h => h) (Or.inl ⟨by rfl, ?_⟩) hHeld ?_ ?_
                rotate_left
                ·
                 rintro w' ⟨s0, s1⟩
                 go_simp
                 with_reducible rfl
                rotate_left
                ·
                 simp only [Act.put, List.setIfInBounds_toArray, List.set_cons_zero, List.set_cons_succ, i64_w, i32_w]
                 rfl
                refine take_ (i := 8) (N := some 35) (v := ?_) (a' := ?_) #[true, true, true, true, true, true, true, true, true, false, false, false] rfl rfl (xdF HT_.out HW_.out (by kernel_rfl)) (fun _ _ _ h => h) (Or.inl ⟨by rfl, ?_⟩) hHeld ?_ ?_
                rotate_left
                ·
                 rintro w' ⟨s0, s1⟩
                 go_simp
                 with_reducible rfl
                rotate_left
                ·
                 simp only [Act.put, List.setIfInBounds_toArray, List.set_cons_zero, List.set_cons_succ, i64_w, i32_w]
                 rfl
                refine pure_ (i := 9) (N := some 36) (v := ?_) (a' := ?_) #[true, true, true, true, true, true, true, true, true, true, false, false] rfl rfl (any_of HT_.out (by kernel_rfl)) (fun _ _ _ h => h) (Or.inl ⟨by rfl, ?_⟩) ?_ ?_
                rotate_left
                ·
                 intro w'
                 go_simp
                 with_reducible rfl
                rotate_left
                ·
                 simp only [Act.put, List.setIfInBounds_toArray, List.set_cons_zero, List.set_cons_succ, i64_w, i32_w]
                 rfl
                refine one_ (i := 10) (N := some 8) #[true, true, true, true, true, true, true, true, true, true, true, false] rfl rfl (one_of HT_.out (by kernel_rfl)) (by decide) (fun K hK => ?_)
                refine xgJ ?hg (N := 8) ?hd (cs := #[.int .i64 0, .int .i64 0, .int .i64 0, .int .i64 0, .int .i64 0]) (t := 145) ?hr ?_; (case hd => rfl); (case hg => rfl); (case hr => first | (go_simp; done) | (go_simp; rfl))
                intro gb955 hg w28 hbox hb
                have HS0_ := (hb.cell (World.block_lt_of_cell? _ _ (hHeld.1))).trans (hHeld.1)
                have HS1_ := (hb.cell (World.block_lt_of_cell? _ _ (hHeld.2))).trans (hHeld.2)
                replace HO_4 := Aside0.mk (Kd.xbL (bR HO_4) hb)
                replace HO_6 := Aside0.mk (Kd.xbL (Kd.xgK (bR HO_6) gb955 (Nat.le_of_eq hg.symm)) hb)
                have BK955 := Aside0.mk (hbox)
                have GW955 := bG hg
                have GE955 := bG hg
                replace HB := bS hb
                have NB945_955 := Aside0.mk ((by rw [hg]; exact Nat.ne_of_lt (blk_lt (g := gb945) (o := .cells #[.int .i64 a0_0, .int .i64 a0_1, .int .i64 a0_2, .int .i64 a0_3, .int .i64 a0_4, .int .i64 a0_5, .int .i64 a0_6, .int .i64 a0_7, .int .i64 a0_8, .slice A0_9 l0_9.length c0_9] 117 (0, 0)) (bk BK945)) : gb945 ≠ gb955))
                have NB955_945 := Aside0.mk ((by rw [hg]; exact Nat.ne_of_gt (blk_lt (g := gb945) (o := .cells #[.int .i64 a0_0, .int .i64 a0_1, .int .i64 a0_2, .int .i64 a0_3, .int .i64 a0_4, .int .i64 a0_5, .int .i64 a0_6, .int .i64 a0_7, .int .i64 a0_8, .slice A0_9 l0_9.length c0_9] 117 (0, 0)) (bk BK945)) : gb955 ≠ gb945))
                replace BK945 := bK BK945 hb
                clear hb hbox hg
                refine hK.out _ _ ⟨HS0_, HS1_⟩ (fun hHeld => ?_)
                clear hK K
                refine norm_ (a' := ?_) ?_ ?_
                rotate_left
                ·
                 show Act.put _ (some 8) _ = _
                 simp only [Act.put, List.setIfInBounds_toArray, List.set_cons_zero, List.set_cons_succ, i64_w, i32_w]
                 rfl
                refine one_ (i := 11) (N := none) #[true, true, true, true, true, true, true, true, true, true, true, true] rfl rfl (one_of HT_.out (by kernel_rfl)) (by decide) (fun K hK => ?_)
                have hs29 : w28.cell? ⟨gb955, 0, none⟩ = some (.int .i64 0) := (xaA BK955.out 0).trans rfl
                have hfs29 := xaB BK955.out 0;have hns29_0 := NB945_955.out;have hms29_0 := NB955_945.out
                have hs30 : w28.cell? ⟨gb955, 1, none⟩ = some (.int .i64 0) := (xaA BK955.out 1).trans rfl
                have hfs30 := xaB BK955.out 1;have hns30_0 := NB945_955.out;have hms30_0 := NB955_945.out
                have hs31 : w28.cell? ⟨gb955, 2, none⟩ = some (.int .i64 0) := (xaA BK955.out 2).trans rfl
                have hfs31 := xaB BK955.out 2;have hns31_0 := NB945_955.out;have hms31_0 := NB955_945.out
                have hs32 : w28.cell? ⟨gb955, 3, none⟩ = some (.int .i64 0) := (xaA BK955.out 3).trans rfl
                have hfs32 := xaB BK955.out 3;have hns32_0 := NB945_955.out;have hms32_0 := NB955_945.out
                have hs33 : w28.cell? ⟨gb955, 4, none⟩ = some (.int .i64 0) := (xaA BK955.out 4).trans rfl
                have hfs33 := xaB BK955.out 4;have hns33_0 := NB945_955.out;have hms33_0 := NB955_945.out
                refine skip_ (w1 := ?_) (by rfl) rfl ?_ ?_
                rotate_left
                ·
                 go_simp
                 rfl
                refine hK.out _ _ ⟨((cell_far (p := ⟨gb955, _, none⟩) (by first | exact Kd.xaG (Kd.R_ne HO_4.out BK955.out (by decide)) | (rw [add_block]; exact Kd.xaG (Kd.R_ne HO_4.out BK955.out (by decide))) | (show (Addr.add _ _).block ≠ _; rw [add_block]; exact Kd.xaG (Kd.R_ne HO_4.out BK955.out (by decide))) | (dsimp only; exact Kd.xaG (Kd.R_ne HO_4.out BK955.out (by decide)))) _).trans (((cell_far (p := ⟨gb955, _, none⟩) (by first | exact Kd.xaG (Kd.R_ne HO_4.out BK955.out (by decide)) | (rw [add_block]; exact Kd.xaG (Kd.R_ne HO_4.out BK955.out (by decide))) | (show (Addr.add _ _).block ≠ _; rw [add_block]; exact Kd.xaG (Kd.R_ne HO_4.out BK955.out (by decide))) | (dsimp only; exact Kd.xaG (Kd.R_ne HO_4.out BK955.out (by decide)))) _).trans (((cell_far (p := ⟨gb955, _, none⟩) (by first | exact Kd.xaG (Kd.R_ne HO_4.out BK955.out (by decide)) | (rw [add_block]; exact Kd.xaG (Kd.R_ne HO_4.out BK955.out (by decide))) | (show (Addr.add _ _).block ≠ _; rw [add_block]; exact Kd.xaG (Kd.R_ne HO_4.out BK955.out (by decide))) | (dsimp only; exact Kd.xaG (Kd.R_ne HO_4.out BK955.out (by decide)))) _).trans (((cell_far (p := ⟨gb955, _, none⟩) (by first | exact Kd.xaG (Kd.R_ne HO_4.out BK955.out (by decide)) | (rw [add_block]; exact Kd.xaG (Kd.R_ne HO_4.out BK955.out (by decide))) | (show (Addr.add _ _).block ≠ _; rw [add_block]; exact Kd.xaG (Kd.R_ne HO_4.out BK955.out (by decide))) | (dsimp only; exact Kd.xaG (Kd.R_ne HO_4.out BK955.out (by decide)))) _).trans (((cell_far (p := ⟨gb955, _, none⟩) (by first | exact Kd.xaG (Kd.R_ne HO_4.out BK955.out (by decide)) | (rw [add_block]; exact Kd.xaG (Kd.R_ne HO_4.out BK955.out (by decide))) | (show (Addr.add _ _).block ≠ _; rw [add_block]; exact Kd.xaG (Kd.R_ne HO_4.out BK955.out (by decide))) | (dsimp only; exact Kd.xaG (Kd.R_ne HO_4.out BK955.out (by decide)))) _).trans (hHeld.1)))))))))), ((cell_far (p := ⟨gb955, _, none⟩) (by first | exact Kd.xaG (Kd.R_ne HO_4.out BK955.out (by decide)) | (rw [add_block]; exact Kd.xaG (Kd.R_ne HO_4.out BK955.out (by decide))) | (show (Addr.add _ _).block ≠ _; rw [add_block]; exact Kd.xaG (Kd.R_ne HO_4.out BK955.out (by decide))) | (dsimp only; exact Kd.xaG (Kd.R_ne HO_4.out BK955.out (by decide)))) _).trans (((cell_far (p := ⟨gb955, _, none⟩) (by first | exact Kd.xaG (Kd.R_ne HO_4.out BK955.out (by decide)) | (rw [add_block]; exact Kd.xaG (Kd.R_ne HO_4.out BK955.out (by decide))) | (show (Addr.add _ _).block ≠ _; rw [add_block]; exact Kd.xaG (Kd.R_ne HO_4.out BK955.out (by decide))) | (dsimp only; exact Kd.xaG (Kd.R_ne HO_4.out BK955.out (by decide)))) _).trans (((cell_far (p := ⟨gb955, _, none⟩) (by first | exact Kd.xaG (Kd.R_ne HO_4.out BK955.out (by decide)) | (rw [add_block]; exact Kd.xaG (Kd.R_ne HO_4.out BK955.out (by decide))) | (show (Addr.add _ _).block ≠ _; rw [add_block]; exact Kd.xaG (Kd.R_ne HO_4.out BK955.out (by decide))) | (dsimp only; exact Kd.xaG (Kd.R_ne HO_4.out BK955.out (by decide)))) _).trans (((cell_far (p := ⟨gb955, _, none⟩) (by first | exact Kd.xaG (Kd.R_ne HO_4.out BK955.out (by decide)) | (rw [add_block]; exact Kd.xaG (Kd.R_ne HO_4.out BK955.out (by decide))) | (show (Addr.add _ _).block ≠ _; rw [add_block]; exact Kd.xaG (Kd.R_ne HO_4.out BK955.out (by decide))) | (dsimp only; exact Kd.xaG (Kd.R_ne HO_4.out BK955.out (by decide)))) _).trans (((cell_far (p := ⟨gb955, _, none⟩) (by first | exact Kd.xaG (Kd.R_ne HO_4.out BK955.out (by decide)) | (rw [add_block]; exact Kd.xaG (Kd.R_ne HO_4.out BK955.out (by decide))) | (show (Addr.add _ _).block ≠ _; rw [add_block]; exact Kd.xaG (Kd.R_ne HO_4.out BK955.out (by decide))) | (dsimp only; exact Kd.xaG (Kd.R_ne HO_4.out BK955.out (by decide)))) _).trans (hHeld.2))))))))))⟩ (fun hHeld => ?_)
                clear hK K
                refine done_ (xgX HT_.out (by kernel_rfl)) ?_
                have hnb34 := NB945_955.out;have hnc34 := NB955_945.out
                obtain ⟨_,_,_,_,_,_,_,_,_,_,_,_,_,_,_,_,_,_,_,_⟩ := blk10 BK945
                obtain ⟨_,_,_,_,_,_,_,_,_,_⟩ := blk5 BK955
                try go_wp2_with (first | ((with_reducible refine gG 163 ?_); refine goA (some 44) Tryz.func163 #[.agg #[.int .i64 a0_8, .slice A0_9 l0_9.length c0_9], .int .i64 (rd t946 x24_1), .int .i64 a0_6] ?_; (with_reducible refine (xcA.calls a0_8 _ _ l0_9 (rd t946 x24_1) a0_6 t956 t957 _ ?side1 ?side2 A19.out).mono ?_); (case side1 => exact Kd.xbP HR0_9.out bB); (case side2 => exact HC0_9.out); rintro e w37 ⟨rfl, hb⟩; refine ⟨_, rfl, ?_⟩; replace HO_4 := Aside0.mk (Kd.xbL (by (with_reducible repeat (first | apply Kd.xbJ | apply Kd.xbK | apply Kd.R_drew)); exact (Kd.R_mono (Kd.R_far (p := ⟨gb955, 4, none⟩) (Kd.R_far (p := ⟨gb955, 3, none⟩) (Kd.R_far (p := ⟨gb955, 2, none⟩) (Kd.R_far (p := ⟨gb955, 1, none⟩) (Kd.R_far (p := ⟨gb955, 0, none⟩) (Kd.xdZ HO_4.out BK955.out (by decide)) (fun _ hk => hk.2) (.int .i64 (rd t946 x24_1))) (fun _ hk => hk.2) (.int .i64 (rd t946 (ji16)))) (fun _ hk => hk.2) (.int .i64 0)) (fun _ hk => hk.2) (.int .i64 0)) (fun _ hk => hk.2) (.int .i64 0)) (fun _ h_ => h_.1))) hb); replace HO_6 := Aside0.mk (Kd.xbL (by (with_reducible repeat (first | apply Kd.xbJ | apply Kd.xbK | apply Kd.R_drew)); exact (Kd.R_mono (Kd.R_far (p := ⟨gb955, 4, none⟩) (Kd.R_far (p := ⟨gb955, 3, none⟩) (Kd.R_far (p := ⟨gb955, 2, none⟩) (Kd.R_far (p := ⟨gb955, 1, none⟩) (Kd.R_far (p := ⟨gb955, 0, none⟩) (Kd.R_mono HO_6.out (fun k_ hk => (⟨hk, hk.2⟩ : _ ∧ k_ ≠ gb955))) (fun _ hk => hk.2) (.int .i64 (rd t946 x24_1))) (fun _ hk => hk.2) (.int .i64 (rd t946 (ji16)))) (fun _ hk => hk.2) (.int .i64 0)) (fun _ hk => hk.2) (.int .i64 0)) (fun _ hk => hk.2) (.int .i64 0)) (fun _ h_ => h_.1))) hb); replace BK945 := Aside0.mk (xaK (g := gb945) (o := .cells #[.int .i64 a0_0, .int .i64 a0_1, .int .i64 a0_2, .int .i64 a0_3, .int .i64 a0_4, .int .i64 a0_5, .int .i64 a0_6, .int .i64 a0_7, .int .i64 a0_8, .slice A0_9 l0_9.length c0_9] 117 (0, 0)) (by (with_reducible repeat (first | refine xaH ?_ _ | refine xaF ?_ | refine xaE ?_ _)); refine xbW ?_ NB945_955.out _; (with_reducible repeat (first | refine xaH ?_ _ | refine xaF ?_ | refine xaE ?_ _)); refine xbW ?_ NB945_955.out _; (with_reducible repeat (first | refine xaH ?_ _ | refine xaF ?_ | refine xaE ?_ _)); refine xbW ?_ NB945_955.out _; (with_reducible repeat (first | refine xaH ?_ _ | refine xaF ?_ | refine xaE ?_ _)); refine xbW ?_ NB945_955.out _; (with_reducible repeat (first | refine xaH ?_ _ | refine xaF ?_ | refine xaE ?_ _)); refine xbW ?_ NB945_955.out _; (with_reducible repeat (first | refine xaH ?_ _ | refine xaF ?_ | refine xaE ?_ _)); exact BK945.out) hb); replace BK955 := Aside0.mk (xaK (g := gb955) (o := .cells #[.int .i64 (rd t946 x24_1), .int .i64 (rd t946 (ji16)), .int .i64 0, .int .i64 0, .int .i64 0] 145 (0, 0)) (by (with_reducible repeat (first | refine xaH ?_ _ | refine xaF ?_ | refine xaE ?_ _)); refine xaS (cs := #[.int .i64 (rd t946 x24_1), .int .i64 (rd t946 (ji16)), .int .i64 0, .int .i64 0, .int .i64 0]) ?_ 4 _ rfl; (with_reducible repeat (first | refine xaH ?_ _ | refine xaF ?_ | refine xaE ?_ _)); refine xaS (cs := #[.int .i64 (rd t946 x24_1), .int .i64 (rd t946 (ji16)), .int .i64 0, .int .i64 0, .int .i64 0]) ?_ 3 _ rfl; (with_reducible repeat (first | refine xaH ?_ _ | refine xaF ?_ | refine xaE ?_ _)); refine xaS (cs := #[.int .i64 (rd t946 x24_1), .int .i64 (rd t946 (ji16)), .int .i64 0, .int .i64 0, .int .i64 0]) ?_ 2 _ rfl; (with_reducible repeat (first | refine xaH ?_ _ | refine xaF ?_ | refine xaE ?_ _)); refine xaS (cs := #[.int .i64 (rd t946 x24_1), .int .i64 0, .int .i64 0, .int .i64 0, .int .i64 0]) ?_ 1 _ rfl; (with_reducible repeat (first | refine xaH ?_ _ | refine xaF ?_ | refine xaE ?_ _)); refine xaS (cs := #[.int .i64 0, .int .i64 0, .int .i64 0, .int .i64 0, .int .i64 0]) ?_ 0 _ rfl; (with_reducible repeat (first | refine xaH ?_ _ | refine xaF ?_ | refine xaE ?_ _)); exact BK955.out) hb); replace HB := bS hb; (try clear hb); (try clear hb2); (try clear hk); (try clear hi); obtain ⟨_,_,_,_,_,_,_,_,_,_⟩ := blk5 BK955; obtain ⟨_,_,_,_,_,_,_,_,_,_,_,_,_,_,_,_,_,_,_,_⟩ := blk10 BK945) | ((with_reducible refine xdX (f := 163) rfl ?_); refine goesL_ (some 58) rfl rfl Tryz.func163 (by kernel_rfl) rfl #[.agg #[.int .i64 a0_8, .slice A0_9 l0_9.length c0_9], .int .i64 (rd t946 (ji16)), .int .i64 a0_6] rfl (by (try simp only [List.map_toArray, List.map_cons, List.map_nil]); first | done | (simp only [hji16]; rfl) | rfl | (simp only [List.length_drop, List.length_take]; rfl)) ?_; (with_reducible refine (xcA.calls a0_8 _ _ l0_9 (rd t946 (ji16)) a0_6 t958 t959 _ ?side1 ?side2 A21.out).mono ?_); (case side1 => exact Kd.xbP HR0_9.out bB); (case side2 => exact HC0_9.out); rintro e w40 ⟨rfl, hb⟩; refine ⟨_, rfl, ?_⟩; replace HO_4 := Aside0.mk (Kd.xbL (by (with_reducible repeat (first | apply Kd.xbJ | apply Kd.xbK | apply Kd.R_drew)); exact (Kd.R_mono (Kd.R_far (p := ⟨gb955, 2, none⟩) (Kd.xdZ HO_4.out BK955.out (by decide)) (fun _ hk => hk.2) (.int .i64 t956)) (fun _ h_ => h_.1))) hb); replace HO_6 := Aside0.mk (Kd.xbL (by (with_reducible repeat (first | apply Kd.xbJ | apply Kd.xbK | apply Kd.R_drew)); exact (Kd.R_mono (Kd.R_far (p := ⟨gb955, 2, none⟩) (Kd.R_mono HO_6.out (fun k_ hk => (⟨hk, hk.2⟩ : _ ∧ k_ ≠ gb955))) (fun _ hk => hk.2) (.int .i64 t956)) (fun _ h_ => h_.1))) hb); replace BK945 := Aside0.mk (xaK (g := gb945) (o := .cells #[.int .i64 a0_0, .int .i64 a0_1, .int .i64 a0_2, .int .i64 a0_3, .int .i64 a0_4, .int .i64 a0_5, .int .i64 a0_6, .int .i64 a0_7, .int .i64 a0_8, .slice A0_9 l0_9.length c0_9] 117 (0, 0)) (by (with_reducible repeat (first | refine xaH ?_ _ | refine xaF ?_ | refine xaE ?_ _)); refine xbW ?_ NB945_955.out _; (with_reducible repeat (first | refine xaH ?_ _ | refine xaF ?_ | refine xaE ?_ _)); exact BK945.out) hb); replace BK955 := Aside0.mk (xaK (g := gb955) (o := .cells #[.int .i64 (rd t946 x24_1), .int .i64 (rd t946 (ji16)), .int .i64 t956, .int .i64 0, .int .i64 0] 145 (0, 0)) (by (with_reducible repeat (first | refine xaH ?_ _ | refine xaF ?_ | refine xaE ?_ _)); refine xaS (cs := #[.int .i64 (rd t946 x24_1), .int .i64 (rd t946 (ji16)), .int .i64 0, .int .i64 0, .int .i64 0]) ?_ 2 _ rfl; (with_reducible repeat (first | refine xaH ?_ _ | refine xaF ?_ | refine xaE ?_ _)); exact BK955.out) hb); replace HB := bS hb; (try clear hb); (try clear hb2); (try clear hk); (try clear hi); obtain ⟨_,_,_,_,_,_,_,_,_,_⟩ := blk5 BK955; obtain ⟨_,_,_,_,_,_,_,_,_,_,_,_,_,_,_,_,_,_,_,_⟩ := blk10 BK945) | ((with_reducible refine gG 164 ?_); refine goA (some 78) Tryz.func164 #[.agg #[.int .i64 a0_8, .slice A0_9 l0_9.length c0_9], .int .i64 t958, .int .i64 a0_7] ?_; (with_reducible refine (xfH.calls a0_8 _ _ l0_9 t958 a0_7 t960 t961 _ ?side1 ?side2 A24.out).mono ?_); (case side1 => exact Kd.xbP HR0_9.out bB); (case side2 => exact HC0_9.out); rintro e w43 ⟨rfl, hb⟩; refine ⟨_, rfl, ?_⟩; replace HO_4 := Aside0.mk (Kd.xbL (by (with_reducible repeat (first | apply Kd.xbJ | apply Kd.xbK | apply Kd.R_drew)); exact (Kd.R_mono (Kd.R_far (p := ⟨gb955, 4, none⟩) (Kd.R_far (p := ⟨gb955, 3, none⟩) (Kd.xdZ HO_4.out BK955.out (by decide)) (fun _ hk => hk.2) (.int .i64 t958)) (fun _ hk => hk.2) (.int .i64 t958)) (fun _ h_ => h_.1))) hb); replace HO_6 := Aside0.mk (Kd.xbL (by (with_reducible repeat (first | apply Kd.xbJ | apply Kd.xbK | apply Kd.R_drew)); exact (Kd.R_mono (Kd.R_far (p := ⟨gb955, 4, none⟩) (Kd.R_far (p := ⟨gb955, 3, none⟩) (Kd.R_mono HO_6.out (fun k_ hk => (⟨hk, hk.2⟩ : _ ∧ k_ ≠ gb955))) (fun _ hk => hk.2) (.int .i64 t958)) (fun _ hk => hk.2) (.int .i64 t958)) (fun _ h_ => h_.1))) hb); replace BK945 := Aside0.mk (xaK (g := gb945) (o := .cells #[.int .i64 a0_0, .int .i64 a0_1, .int .i64 a0_2, .int .i64 a0_3, .int .i64 a0_4, .int .i64 a0_5, .int .i64 a0_6, .int .i64 a0_7, .int .i64 a0_8, .slice A0_9 l0_9.length c0_9] 117 (0, 0)) (by (with_reducible repeat (first | refine xaH ?_ _ | refine xaF ?_ | refine xaE ?_ _)); refine xbW ?_ NB945_955.out _; (with_reducible repeat (first | refine xaH ?_ _ | refine xaF ?_ | refine xaE ?_ _)); refine xbW ?_ NB945_955.out _; (with_reducible repeat (first | refine xaH ?_ _ | refine xaF ?_ | refine xaE ?_ _)); exact BK945.out) hb); replace BK955 := Aside0.mk (xaK (g := gb955) (o := .cells #[.int .i64 (rd t946 x24_1), .int .i64 (rd t946 (ji16)), .int .i64 t956, .int .i64 t958, .int .i64 t958] 145 (0, 0)) (by (with_reducible repeat (first | refine xaH ?_ _ | refine xaF ?_ | refine xaE ?_ _)); refine xaS (cs := #[.int .i64 (rd t946 x24_1), .int .i64 (rd t946 (ji16)), .int .i64 t956, .int .i64 t958, .int .i64 0]) ?_ 4 _ rfl; (with_reducible repeat (first | refine xaH ?_ _ | refine xaF ?_ | refine xaE ?_ _)); refine xaS (cs := #[.int .i64 (rd t946 x24_1), .int .i64 (rd t946 (ji16)), .int .i64 t956, .int .i64 0, .int .i64 0]) ?_ 3 _ rfl; (with_reducible repeat (first | refine xaH ?_ _ | refine xaF ?_ | refine xaE ?_ _)); exact BK955.out) hb); replace HB := bS hb; (try clear hb); (try clear hb2); (try clear hk); (try clear hi); obtain ⟨_,_,_,_,_,_,_,_,_,_⟩ := blk5 BK955) | ((with_reducible refine xaR (b := .append) (xs := #[.tmp 85, .tmp 87]) rfl ?_); at_builtin; refine Kd.xbZ k145 (w0 := w) w.heap.size rfl (.tmp 85) (.tmp 87) 139 145 (.agg #[(.int .i64 0), (.int .i64 0), (.int .i64 0), (.int .i64 0), (.int .i64 0)]) 40 rfl Tryz.underlying139 info145 rfl (by decide) (by omega) u6 x6_1 (⟨rd t946 x24_1, rd t946 (ji16), t956, t958, t960⟩ : S145) [.int .i64 (rd t946 x24_1), .int .i64 (rd t946 (ji16)), .int .i64 t956, .int .i64 t958, .int .i64 t960] (fun k_ => k_ ≠ gb955) (fun _ => False) rfl (by first | (go_simp; done) | (go_simp; rfl)) ?aP (fun _ hk => hk.elim) ?aF ?aO ?aB ?aS ?aL ?_; (case aP => exact k145_mkM _ _ _ (⟨rd t946 x24_1, rd t946 (ji16), t956, t958, t960⟩ : S145)); (case aB => exact bB); (case aF => exact (fun k_ hk => Kd.freshB (g := gb955) (o := .cells #[.int .i64 (rd t946 x24_1), .int .i64 (rd t946 (ji16)), .int .i64 t956, .int .i64 t958, .int .i64 t960] 145 (0, 0)) (by (with_reducible repeat (first | refine xaH ?_ _ | refine xaF ?_ | refine xaE ?_ _)); refine xaS (cs := #[.int .i64 (rd t946 x24_1), .int .i64 (rd t946 (ji16)), .int .i64 t956, .int .i64 t958, .int .i64 t958]) ?_ 4 _ rfl; (with_reducible repeat (first | refine xaH ?_ _ | refine xaF ?_ | refine xaE ?_ _)); exact BK955.out) k_ hk)); (case aO => exact (by (with_reducible repeat (first | apply Kd.xbJ | apply Kd.xbK | apply Kd.R_drew)); exact Kd.R_mono (Kd.R_far (p := ⟨gb955, 4, none⟩) (Kd.R_mono HO_6.out (fun k_ hk => (⟨hk, hk.2⟩ : _ ∧ k_ ≠ gb955))) (fun _ hk => hk.2) (.int .i64 t960)) (fun _ hk => hk.1.2))); (case aS => exact (xbG bB)); (case aL => have := LMc26.out; omega); intro v963 w45 ho hb hg hat; rw [← Ny962.out] at ho; replace HO_4 := Aside0.mk (Kd.R_over' (by (with_reducible repeat (first | apply Kd.xbJ | apply Kd.xbK | apply Kd.R_drew)); exact (Kd.R_mono (Kd.R_far (p := ⟨gb955, 4, none⟩) (Kd.xdZ HO_4.out BK955.out (by decide)) (fun _ hk => hk.2) (.int .i64 t960)) (fun _ h_ => h_.1))) (Kd.R_typed (by (with_reducible repeat (first | apply Kd.xbJ | apply Kd.xbK | apply Kd.R_drew)); exact (Kd.R_mono (Kd.R_far (p := ⟨gb955, 4, none⟩) (Kd.R_mono HO_6.out (fun k_ hk => (⟨hk, hk.2⟩ : _ ∧ k_ ≠ gb955))) (fun _ hk => hk.2) (.int .i64 t960)) (fun _ h_ => h_.1)))) (by decide) hg); replace BK945 := Aside0.mk (xcG (g := gb945) (o := .cells #[.int .i64 a0_0, .int .i64 a0_1, .int .i64 a0_2, .int .i64 a0_3, .int .i64 a0_4, .int .i64 a0_5, .int .i64 a0_6, .int .i64 a0_7, .int .i64 a0_8, .slice A0_9 l0_9.length c0_9] 117 (0, 0)) (by (with_reducible repeat (first | refine xaH ?_ _ | refine xaF ?_ | refine xaE ?_ _)); refine xbW ?_ NB945_955.out _; (with_reducible repeat (first | refine xaH ?_ _ | refine xaF ?_ | refine xaE ?_ _)); exact BK945.out) hg (Kd.R_ne HO_6.out BK945.out (by decide))); replace BK955 := Aside0.mk (xcG (g := gb955) (o := .cells #[.int .i64 (rd t946 x24_1), .int .i64 (rd t946 (ji16)), .int .i64 t956, .int .i64 t958, .int .i64 t960] 145 (0, 0)) (by (with_reducible repeat (first | refine xaH ?_ _ | refine xaF ?_ | refine xaE ?_ _)); refine xaS (cs := #[.int .i64 (rd t946 x24_1), .int .i64 (rd t946 (ji16)), .int .i64 t956, .int .i64 t958, .int .i64 t958]) ?_ 4 _ rfl; (with_reducible repeat (first | refine xaH ?_ _ | refine xaF ?_ | refine xaE ?_ _)); exact BK955.out) hg (Kd.R_away HO_6.out (fun _ hk => hk.2))); replace HB := Aside0.mk (hb); have HO964 := Aside0.mk (ho); clear HO_6; clear ho hb hg hat))
                go_roundg k1
                case measure => have := HK1.out; omega
                case rel => exact ⟨(y962), (ji16), (by first | rfl | (simp; done) | (simp only [← hji16] <;> (first | rfl | simp)) | (simp [*]; done)), H', ⟨by have := HK1.out; omega⟩, ⟨(bR HO_4)⟩, ⟨by (with_reducible repeat (first | apply Kd.xbJ | apply Kd.xbK | apply Kd.R_drew)); exact Kd.R_mono HO964.out (fun _ hk => trivial)⟩, ⟨(bk BK945)⟩, ⟨bB⟩⟩
               ·
                rw [if_neg c26] at H
                exact absurd H (by simp)
              ·
               rw [if_neg c25] at H
               have c25b0 : (t961 == 0) = false := beq_eq_false_iff_ne.mpr c25
               have c25b1 : (t961 != 0) = true := bne_iff_ne.mpr c25
               simp only [Option.some.injEq, Prod.mk.injEq] at H
               obtain ⟨rfl, rfl⟩ := H
               try go_wp2
               replace HO_4 := Aside0.mk (Kd.R_drew HO_4.out)
               replace HO_6 := Aside0.mk (Kd.R_drew HO_6.out)
               replace BK945 := Aside0.mk (xaF BK945.out)
               replace HB := Aside0.mk (xaM HB.out)
               have p953 : 0 ≤ (x24_1 : Int) := of_decide_eq_true tA
               have q953 : x24_1 < (t946.length : Int) := of_decide_eq_true tA
               obtain ⟨ad953, e953, hx953_0⟩ := Kd.at_int (Kd.R_reads' HO_4.out).2.2 x24_1 p953 q953
               cases e953
               replace p953 := eq_true p953;replace q953 := eq_true q953
               have p954 : 0 ≤ ((ji16) : Int) := of_decide_eq_true tA
               have q954 : (ji16) < (t946.length : Int) := of_decide_eq_true tA
               obtain ⟨ad954, e954, hx954_0⟩ := Kd.at_int (Kd.R_reads' HO_4.out).2.2 (ji16) p954 q954
               obtain rfl : ad953 = ad954 := (by injection e954)
               replace p954 := eq_true p954;replace q954 := eq_true q954
               refine start_ (n := 12) (S := fun w' => w'.cell? (ad953.add (x24_1).toNat) = some (.int .i64 (rd t946 x24_1)) ∧ w'.cell? (ad953.add ((ji16)).toNat) = some (.int .i64 (rd t946 (ji16)))) (ds := []) #[false, false, false, false, false, false, false, false, false, false, false, false] (by kernel_rfl) rfl rfl ⟨hx953_0, hx954_0⟩ (fun hHeld => ?_); refine xeP xaN.tab8 xaN.bits8 (fun HT_ HW_ => ?_)
               generalize wr.drew = w46 at HO_4 HO_6 BK945 HB hx953_0 hx954_0 hHeld ⊢
               refine pure_ (i := 0) (N := some 27) (v := ?_) (a' := ?_) #[true, false, false, false, false, false, false, false, false, false, false, false] rfl rfl (any_of HT_.out (by kernel_rfl)) (fun _ _ _ h => h) (Or.inl ⟨by rfl, ?_⟩) ?_ ?_
               rotate_left
               ·
                intro w'
                go_simp
                with_reducible rfl
               rotate_left
               ·
                simp only [Act.put, List.setIfInBounds_toArray, List.set_cons_zero, List.set_cons_succ, i64_w, i32_w]
                rfl
               refine pure_ (i := 1) (N := some 28) (v := ?_) (a' := ?_) #[true, true, false, false, false, false, false, false, false, false, false, false] rfl rfl (any_of HT_.out (by kernel_rfl)) (fun _ _ _ h => h) (Or.inl ⟨by rfl, ?_⟩) ?_ ?_
               rotate_left
               ·
                intro w'
                go_simp
                with_reducible rfl
               rotate_left
               ·
                simp only [Act.put, List.setIfInBounds_toArray, List.set_cons_zero, List.set_cons_succ, i64_w, i32_w]
                rfl
               refine pure_ (i := 2) (N := some 29) (v := ?_) (a' := ?_) #[true, true, true, false, false, false, false, false, false, false, false, false] rfl rfl (any_of HT_.out (by kernel_rfl)) (fun _ _ _ h => h) (Or.inl ⟨by rfl, ?_⟩) ?_ ?_
               rotate_left
               ·
                intro w'
                go_simp
                with_reducible rfl
               rotate_left
               ·
                simp only [Act.put, List.setIfInBounds_toArray, List.set_cons_zero, List.set_cons_succ, i64_w, i32_w]
                rfl
               refine pure_ (i := 4) (N := some 31) (v := ?_) (a' := ?_) #[true, true, true, false, true, false, false, false, false, false, false, false] rfl rfl (any_of HT_.out (by kernel_rfl)) (fun _ _ _ h => h) (Or.inl ⟨by rfl, ?_⟩) ?_ ?_
               rotate_left
               ·
                intro w'
                go_simp
                with_reducible rfl
               rotate_left
               ·
                simp only [Act.put, List.setIfInBounds_toArray, List.set_cons_zero, List.set_cons_succ, i64_w, i32_w]
                rfl
               refine pure_ (i := 5) (N := some 32) (v := ?_) (a' := ?_) #[true, true, true, false, true, true, false, false, false, false, false, false] rfl rfl (any_of HT_.out (by kernel_rfl)) (fun _ _ _ h => h) (Or.inl ⟨by rfl, ?_⟩) ?_ ?_
               rotate_left
               ·
                intro w'
                go_simp
                with_reducible rfl
               rotate_left
               ·
                simp only [Act.put, List.setIfInBounds_toArray, List.set_cons_zero, List.set_cons_succ, i64_w, i32_w]
                rfl
               refine pure_ (i := 6) (N := some 33) (v := ?_) (a' := ?_) #[true, true, true, false, true, true, true, false, false, false, false, false] rfl rfl (any_of HT_.out (by kernel_rfl)) (fun _ _ _ h => h) (Or.inl ⟨by rfl, ?_⟩) ?_ ?_
               rotate_left
               ·
                intro w'
                go_simp
                with_reducible rfl
               rotate_left
               ·
                simp only [Act.put, List.setIfInBounds_toArray, List.set_cons_zero, List.set_cons_succ, i64_w, i32_w]
                rfl
               refine pure_ (i := 7) (N := some 34) (v := ?_) (a' := ?_) #[true, true, true, false, true, true, true, true, false, false, false, false] rfl rfl (any_of HT_.out (by kernel_rfl)) (fun _ _ _ h => h) (Or.inl ⟨by rfl, ?_⟩) ?_ ?_
               rotate_left
               ·
                intro w'
                go_simp
                with_reducible rfl
               rotate_left
               ·
                simp only [Act.put, List.setIfInBounds_toArray, List.set_cons_zero, List.set_cons_succ, i64_w, i32_w]
                rfl
               refine take_ (i := 3) (N := some 30) (v := ?_) (a' := ?_) #[true, true, true, true, true, true, true, true, false, false, false, false] rfl rfl (xdF HT_.out HW_.out (by kernel_rfl)) (fun _ _ _ h => h) (Or.inl ⟨by rfl, ?_⟩) hHeld ?_ ?_
               rotate_left
               ·
                rintro w' ⟨s0, s1⟩
                go_simp
                with_reducible rfl
               rotate_left
               ·
                simp only [Act.put, List.setIfInBounds_toArray, List.set_cons_zero, List.set_cons_succ, i64_w, i32_w]
                rfl
               refine take_ (i := 8) (N := some 35) (v := ?_) (a' := ?_) #[true, true, true, true, true, true, true, true, true, false, false, false] rfl rfl (xdF HT_.out HW_.out (by kernel_rfl)) (fun _ _ _ h => h) (Or.inl ⟨by rfl, ?_⟩) hHeld ?_ ?_
               rotate_left
               ·
                rintro w' ⟨s0, s1⟩
                go_simp
                with_reducible rfl
               rotate_left
               ·
                simp only [Act.put, List.setIfInBounds_toArray, List.set_cons_zero, List.set_cons_succ, i64_w, i32_w]
                rfl
               refine pure_ (i := 9) (N := some 36) (v := ?_) (a' := ?_) #[true, true, true, true, true, true, true, true, true, true, false, false] rfl rfl (any_of HT_.out (by kernel_rfl)) (fun _ _ _ h => h) (Or.inl ⟨by rfl, ?_⟩) ?_ ?_
               rotate_left
               ·
                intro w'
                go_simp
                with_reducible rfl
               rotate_left
               ·
                simp only [Act.put, List.setIfInBounds_toArray, List.set_cons_zero, List.set_cons_succ, i64_w, i32_w]
                rfl
               refine one_ (i := 10) (N := some 8) #[true, true, true, true, true, true, true, true, true, true, true, false] rfl rfl (one_of HT_.out (by kernel_rfl)) (by decide) (fun K hK => ?_)
               refine xgJ ?hg (N := 8) ?hd (cs := #[.int .i64 0, .int .i64 0, .int .i64 0, .int .i64 0, .int .i64 0]) (t := 145) ?hr ?_; (case hd => rfl); (case hg => rfl); (case hr => first | (go_simp; done) | (go_simp; rfl))
               intro gb955 hg w47 hbox hb
               have HS0_ := (hb.cell (World.block_lt_of_cell? _ _ (hHeld.1))).trans (hHeld.1)
               have HS1_ := (hb.cell (World.block_lt_of_cell? _ _ (hHeld.2))).trans (hHeld.2)
               replace HO_4 := Aside0.mk (Kd.xbL (bR HO_4) hb)
               replace HO_6 := Aside0.mk (Kd.xbL (Kd.xgK (bR HO_6) gb955 (Nat.le_of_eq hg.symm)) hb)
               have BK955 := Aside0.mk (hbox)
               have GW955 := bG hg
               have GE955 := bG hg
               replace HB := bS hb
               have NB945_955 := Aside0.mk ((by rw [hg]; exact Nat.ne_of_lt (blk_lt (g := gb945) (o := .cells #[.int .i64 a0_0, .int .i64 a0_1, .int .i64 a0_2, .int .i64 a0_3, .int .i64 a0_4, .int .i64 a0_5, .int .i64 a0_6, .int .i64 a0_7, .int .i64 a0_8, .slice A0_9 l0_9.length c0_9] 117 (0, 0)) (bk BK945)) : gb945 ≠ gb955))
               have NB955_945 := Aside0.mk ((by rw [hg]; exact Nat.ne_of_gt (blk_lt (g := gb945) (o := .cells #[.int .i64 a0_0, .int .i64 a0_1, .int .i64 a0_2, .int .i64 a0_3, .int .i64 a0_4, .int .i64 a0_5, .int .i64 a0_6, .int .i64 a0_7, .int .i64 a0_8, .slice A0_9 l0_9.length c0_9] 117 (0, 0)) (bk BK945)) : gb955 ≠ gb945))
               replace BK945 := bK BK945 hb
               clear hb hbox hg
               refine hK.out _ _ ⟨HS0_, HS1_⟩ (fun hHeld => ?_)
               clear hK K
               refine norm_ (a' := ?_) ?_ ?_
               rotate_left
               ·
                show Act.put _ (some 8) _ = _
                simp only [Act.put, List.setIfInBounds_toArray, List.set_cons_zero, List.set_cons_succ, i64_w, i32_w]
                rfl
               refine one_ (i := 11) (N := none) #[true, true, true, true, true, true, true, true, true, true, true, true] rfl rfl (one_of HT_.out (by kernel_rfl)) (by decide) (fun K hK => ?_)
               have hs48 : w47.cell? ⟨gb955, 0, none⟩ = some (.int .i64 0) := (xaA BK955.out 0).trans rfl
               have hfs48 := xaB BK955.out 0;have hns48_0 := NB945_955.out;have hms48_0 := NB955_945.out
               have hs49 : w47.cell? ⟨gb955, 1, none⟩ = some (.int .i64 0) := (xaA BK955.out 1).trans rfl
               have hfs49 := xaB BK955.out 1;have hns49_0 := NB945_955.out;have hms49_0 := NB955_945.out
               have hs50 : w47.cell? ⟨gb955, 2, none⟩ = some (.int .i64 0) := (xaA BK955.out 2).trans rfl
               have hfs50 := xaB BK955.out 2;have hns50_0 := NB945_955.out;have hms50_0 := NB955_945.out
               have hs51 : w47.cell? ⟨gb955, 3, none⟩ = some (.int .i64 0) := (xaA BK955.out 3).trans rfl
               have hfs51 := xaB BK955.out 3;have hns51_0 := NB945_955.out;have hms51_0 := NB955_945.out
               have hs52 : w47.cell? ⟨gb955, 4, none⟩ = some (.int .i64 0) := (xaA BK955.out 4).trans rfl
               have hfs52 := xaB BK955.out 4;have hns52_0 := NB945_955.out;have hms52_0 := NB955_945.out
               refine skip_ (w1 := ?_) (by rfl) rfl ?_ ?_
               rotate_left
               ·
                go_simp
                rfl
               refine hK.out _ _ ⟨((cell_far (p := ⟨gb955, _, none⟩) (by first | exact Kd.xaG (Kd.R_ne HO_4.out BK955.out (by decide)) | (rw [add_block]; exact Kd.xaG (Kd.R_ne HO_4.out BK955.out (by decide))) | (show (Addr.add _ _).block ≠ _; rw [add_block]; exact Kd.xaG (Kd.R_ne HO_4.out BK955.out (by decide))) | (dsimp only; exact Kd.xaG (Kd.R_ne HO_4.out BK955.out (by decide)))) _).trans (((cell_far (p := ⟨gb955, _, none⟩) (by first | exact Kd.xaG (Kd.R_ne HO_4.out BK955.out (by decide)) | (rw [add_block]; exact Kd.xaG (Kd.R_ne HO_4.out BK955.out (by decide))) | (show (Addr.add _ _).block ≠ _; rw [add_block]; exact Kd.xaG (Kd.R_ne HO_4.out BK955.out (by decide))) | (dsimp only; exact Kd.xaG (Kd.R_ne HO_4.out BK955.out (by decide)))) _).trans (((cell_far (p := ⟨gb955, _, none⟩) (by first | exact Kd.xaG (Kd.R_ne HO_4.out BK955.out (by decide)) | (rw [add_block]; exact Kd.xaG (Kd.R_ne HO_4.out BK955.out (by decide))) | (show (Addr.add _ _).block ≠ _; rw [add_block]; exact Kd.xaG (Kd.R_ne HO_4.out BK955.out (by decide))) | (dsimp only; exact Kd.xaG (Kd.R_ne HO_4.out BK955.out (by decide)))) _).trans (((cell_far (p := ⟨gb955, _, none⟩) (by first | exact Kd.xaG (Kd.R_ne HO_4.out BK955.out (by decide)) | (rw [add_block]; exact Kd.xaG (Kd.R_ne HO_4.out BK955.out (by decide))) | (show (Addr.add _ _).block ≠ _; rw [add_block]; exact Kd.xaG (Kd.R_ne HO_4.out BK955.out (by decide))) | (dsimp only; exact Kd.xaG (Kd.R_ne HO_4.out BK955.out (by decide)))) _).trans (((cell_far (p := ⟨gb955, _, none⟩) (by first | exact Kd.xaG (Kd.R_ne HO_4.out BK955.out (by decide)) | (rw [add_block]; exact Kd.xaG (Kd.R_ne HO_4.out BK955.out (by decide))) | (show (Addr.add _ _).block ≠ _; rw [add_block]; exact Kd.xaG (Kd.R_ne HO_4.out BK955.out (by decide))) | (dsimp only; exact Kd.xaG (Kd.R_ne HO_4.out BK955.out (by decide)))) _).trans (hHeld.1)))))))))), ((cell_far (p := ⟨gb955, _, none⟩) (by first | exact Kd.xaG (Kd.R_ne HO_4.out BK955.out (by decide)) | (rw [add_block]; exact Kd.xaG (Kd.R_ne HO_4.out BK955.out (by decide))) | (show (Addr.add _ _).block ≠ _; rw [add_block]; exact Kd.xaG (Kd.R_ne HO_4.out BK955.out (by decide))) | (dsimp only; exact Kd.xaG (Kd.R_ne HO_4.out BK955.out (by decide)))) _).trans (((cell_far (p := ⟨gb955, _, none⟩) (by first | exact Kd.xaG (Kd.R_ne HO_4.out BK955.out (by decide)) | (rw [add_block]; exact Kd.xaG (Kd.R_ne HO_4.out BK955.out (by decide))) | (show (Addr.add _ _).block ≠ _; rw [add_block]; exact Kd.xaG (Kd.R_ne HO_4.out BK955.out (by decide))) | (dsimp only; exact Kd.xaG (Kd.R_ne HO_4.out BK955.out (by decide)))) _).trans (((cell_far (p := ⟨gb955, _, none⟩) (by first | exact Kd.xaG (Kd.R_ne HO_4.out BK955.out (by decide)) | (rw [add_block]; exact Kd.xaG (Kd.R_ne HO_4.out BK955.out (by decide))) | (show (Addr.add _ _).block ≠ _; rw [add_block]; exact Kd.xaG (Kd.R_ne HO_4.out BK955.out (by decide))) | (dsimp only; exact Kd.xaG (Kd.R_ne HO_4.out BK955.out (by decide)))) _).trans (((cell_far (p := ⟨gb955, _, none⟩) (by first | exact Kd.xaG (Kd.R_ne HO_4.out BK955.out (by decide)) | (rw [add_block]; exact Kd.xaG (Kd.R_ne HO_4.out BK955.out (by decide))) | (show (Addr.add _ _).block ≠ _; rw [add_block]; exact Kd.xaG (Kd.R_ne HO_4.out BK955.out (by decide))) | (dsimp only; exact Kd.xaG (Kd.R_ne HO_4.out BK955.out (by decide)))) _).trans (((cell_far (p := ⟨gb955, _, none⟩) (by first | exact Kd.xaG (Kd.R_ne HO_4.out BK955.out (by decide)) | (rw [add_block]; exact Kd.xaG (Kd.R_ne HO_4.out BK955.out (by decide))) | (show (Addr.add _ _).block ≠ _; rw [add_block]; exact Kd.xaG (Kd.R_ne HO_4.out BK955.out (by decide))) | (dsimp only; exact Kd.xaG (Kd.R_ne HO_4.out BK955.out (by decide)))) _).trans (hHeld.2))))))))))⟩ (fun hHeld => ?_)
               clear hK K
               refine done_ (xgX HT_.out (by kernel_rfl)) ?_
               have hnb53 := NB945_955.out;have hnc53 := NB955_945.out
               obtain ⟨_,_,_,_,_,_,_,_,_,_,_,_,_,_,_,_,_,_,_,_⟩ := blk10 BK945
               obtain ⟨_,_,_,_,_,_,_,_,_,_⟩ := blk5 BK955
               try go_wp2_with (first | ((with_reducible refine gG 163 ?_); refine goA (some 44) Tryz.func163 #[.agg #[.int .i64 a0_8, .slice A0_9 l0_9.length c0_9], .int .i64 (rd t946 x24_1), .int .i64 a0_6] ?_; (with_reducible refine (xcA.calls a0_8 _ _ l0_9 (rd t946 x24_1) a0_6 t956 t957 _ ?side1 ?side2 A19.out).mono ?_); (case side1 => exact Kd.xbP HR0_9.out bB); (case side2 => exact HC0_9.out); rintro e w56 ⟨rfl, hb⟩; refine ⟨_, rfl, ?_⟩; replace HO_4 := Aside0.mk (Kd.xbL (by (with_reducible repeat (first | apply Kd.xbJ | apply Kd.xbK | apply Kd.R_drew)); exact (Kd.R_mono (Kd.R_far (p := ⟨gb955, 4, none⟩) (Kd.R_far (p := ⟨gb955, 3, none⟩) (Kd.R_far (p := ⟨gb955, 2, none⟩) (Kd.R_far (p := ⟨gb955, 1, none⟩) (Kd.R_far (p := ⟨gb955, 0, none⟩) (Kd.xdZ HO_4.out BK955.out (by decide)) (fun _ hk => hk.2) (.int .i64 (rd t946 x24_1))) (fun _ hk => hk.2) (.int .i64 (rd t946 (ji16)))) (fun _ hk => hk.2) (.int .i64 0)) (fun _ hk => hk.2) (.int .i64 0)) (fun _ hk => hk.2) (.int .i64 0)) (fun _ h_ => h_.1))) hb); replace HO_6 := Aside0.mk (Kd.xbL (by (with_reducible repeat (first | apply Kd.xbJ | apply Kd.xbK | apply Kd.R_drew)); exact (Kd.R_mono (Kd.R_far (p := ⟨gb955, 4, none⟩) (Kd.R_far (p := ⟨gb955, 3, none⟩) (Kd.R_far (p := ⟨gb955, 2, none⟩) (Kd.R_far (p := ⟨gb955, 1, none⟩) (Kd.R_far (p := ⟨gb955, 0, none⟩) (Kd.R_mono HO_6.out (fun k_ hk => (⟨hk, hk.2⟩ : _ ∧ k_ ≠ gb955))) (fun _ hk => hk.2) (.int .i64 (rd t946 x24_1))) (fun _ hk => hk.2) (.int .i64 (rd t946 (ji16)))) (fun _ hk => hk.2) (.int .i64 0)) (fun _ hk => hk.2) (.int .i64 0)) (fun _ hk => hk.2) (.int .i64 0)) (fun _ h_ => h_.1))) hb); replace BK945 := Aside0.mk (xaK (g := gb945) (o := .cells #[.int .i64 a0_0, .int .i64 a0_1, .int .i64 a0_2, .int .i64 a0_3, .int .i64 a0_4, .int .i64 a0_5, .int .i64 a0_6, .int .i64 a0_7, .int .i64 a0_8, .slice A0_9 l0_9.length c0_9] 117 (0, 0)) (by (with_reducible repeat (first | refine xaH ?_ _ | refine xaF ?_ | refine xaE ?_ _)); refine xbW ?_ NB945_955.out _; (with_reducible repeat (first | refine xaH ?_ _ | refine xaF ?_ | refine xaE ?_ _)); refine xbW ?_ NB945_955.out _; (with_reducible repeat (first | refine xaH ?_ _ | refine xaF ?_ | refine xaE ?_ _)); refine xbW ?_ NB945_955.out _; (with_reducible repeat (first | refine xaH ?_ _ | refine xaF ?_ | refine xaE ?_ _)); refine xbW ?_ NB945_955.out _; (with_reducible repeat (first | refine xaH ?_ _ | refine xaF ?_ | refine xaE ?_ _)); refine xbW ?_ NB945_955.out _; (with_reducible repeat (first | refine xaH ?_ _ | refine xaF ?_ | refine xaE ?_ _)); exact BK945.out) hb); replace BK955 := Aside0.mk (xaK (g := gb955) (o := .cells #[.int .i64 (rd t946 x24_1), .int .i64 (rd t946 (ji16)), .int .i64 0, .int .i64 0, .int .i64 0] 145 (0, 0)) (by (with_reducible repeat (first | refine xaH ?_ _ | refine xaF ?_ | refine xaE ?_ _)); refine xaS (cs := #[.int .i64 (rd t946 x24_1), .int .i64 (rd t946 (ji16)), .int .i64 0, .int .i64 0, .int .i64 0]) ?_ 4 _ rfl; (with_reducible repeat (first | refine xaH ?_ _ | refine xaF ?_ | refine xaE ?_ _)); refine xaS (cs := #[.int .i64 (rd t946 x24_1), .int .i64 (rd t946 (ji16)), .int .i64 0, .int .i64 0, .int .i64 0]) ?_ 3 _ rfl; (with_reducible repeat (first | refine xaH ?_ _ | refine xaF ?_ | refine xaE ?_ _)); refine xaS (cs := #[.int .i64 (rd t946 x24_1), .int .i64 (rd t946 (ji16)), .int .i64 0, .int .i64 0, .int .i64 0]) ?_ 2 _ rfl; (with_reducible repeat (first | refine xaH ?_ _ | refine xaF ?_ | refine xaE ?_ _)); refine xaS (cs := #[.int .i64 (rd t946 x24_1), .int .i64 0, .int .i64 0, .int .i64 0, .int .i64 0]) ?_ 1 _ rfl; (with_reducible repeat (first | refine xaH ?_ _ | refine xaF ?_ | refine xaE ?_ _)); refine xaS (cs := #[.int .i64 0, .int .i64 0, .int .i64 0, .int .i64 0, .int .i64 0]) ?_ 0 _ rfl; (with_reducible repeat (first | refine xaH ?_ _ | refine xaF ?_ | refine xaE ?_ _)); exact BK955.out) hb); replace HB := bS hb; (try clear hb); (try clear hb2); (try clear hk); (try clear hi); obtain ⟨_,_,_,_,_,_,_,_,_,_⟩ := blk5 BK955; obtain ⟨_,_,_,_,_,_,_,_,_,_,_,_,_,_,_,_,_,_,_,_⟩ := blk10 BK945) | ((with_reducible refine xdX (f := 163) rfl ?_); refine goesL_ (some 58) rfl rfl Tryz.func163 (by kernel_rfl) rfl #[.agg #[.int .i64 a0_8, .slice A0_9 l0_9.length c0_9], .int .i64 (rd t946 (ji16)), .int .i64 a0_6] rfl (by (try simp only [List.map_toArray, List.map_cons, List.map_nil]); first | done | (simp only [hji16]; rfl) | rfl | (simp only [List.length_drop, List.length_take]; rfl)) ?_; (with_reducible refine (xcA.calls a0_8 _ _ l0_9 (rd t946 (ji16)) a0_6 t958 t959 _ ?side1 ?side2 A21.out).mono ?_); (case side1 => exact Kd.xbP HR0_9.out bB); (case side2 => exact HC0_9.out); rintro e w59 ⟨rfl, hb⟩; refine ⟨_, rfl, ?_⟩; replace HO_4 := Aside0.mk (Kd.xbL (by (with_reducible repeat (first | apply Kd.xbJ | apply Kd.xbK | apply Kd.R_drew)); exact (Kd.R_mono (Kd.R_far (p := ⟨gb955, 2, none⟩) (Kd.xdZ HO_4.out BK955.out (by decide)) (fun _ hk => hk.2) (.int .i64 t956)) (fun _ h_ => h_.1))) hb); replace HO_6 := Aside0.mk (Kd.xbL (by (with_reducible repeat (first | apply Kd.xbJ | apply Kd.xbK | apply Kd.R_drew)); exact (Kd.R_mono (Kd.R_far (p := ⟨gb955, 2, none⟩) (Kd.R_mono HO_6.out (fun k_ hk => (⟨hk, hk.2⟩ : _ ∧ k_ ≠ gb955))) (fun _ hk => hk.2) (.int .i64 t956)) (fun _ h_ => h_.1))) hb); replace BK945 := Aside0.mk (xaK (g := gb945) (o := .cells #[.int .i64 a0_0, .int .i64 a0_1, .int .i64 a0_2, .int .i64 a0_3, .int .i64 a0_4, .int .i64 a0_5, .int .i64 a0_6, .int .i64 a0_7, .int .i64 a0_8, .slice A0_9 l0_9.length c0_9] 117 (0, 0)) (by (with_reducible repeat (first | refine xaH ?_ _ | refine xaF ?_ | refine xaE ?_ _)); refine xbW ?_ NB945_955.out _; (with_reducible repeat (first | refine xaH ?_ _ | refine xaF ?_ | refine xaE ?_ _)); exact BK945.out) hb); replace BK955 := Aside0.mk (xaK (g := gb955) (o := .cells #[.int .i64 (rd t946 x24_1), .int .i64 (rd t946 (ji16)), .int .i64 t956, .int .i64 0, .int .i64 0] 145 (0, 0)) (by (with_reducible repeat (first | refine xaH ?_ _ | refine xaF ?_ | refine xaE ?_ _)); refine xaS (cs := #[.int .i64 (rd t946 x24_1), .int .i64 (rd t946 (ji16)), .int .i64 0, .int .i64 0, .int .i64 0]) ?_ 2 _ rfl; (with_reducible repeat (first | refine xaH ?_ _ | refine xaF ?_ | refine xaE ?_ _)); exact BK955.out) hb); replace HB := bS hb; (try clear hb); (try clear hb2); (try clear hk); (try clear hi); obtain ⟨_,_,_,_,_,_,_,_,_,_⟩ := blk5 BK955; obtain ⟨_,_,_,_,_,_,_,_,_,_,_,_,_,_,_,_,_,_,_,_⟩ := blk10 BK945) | ((with_reducible refine gG 164 ?_); refine goA (some 78) Tryz.func164 #[.agg #[.int .i64 a0_8, .slice A0_9 l0_9.length c0_9], .int .i64 t958, .int .i64 a0_7] ?_; (with_reducible refine (xfH.calls a0_8 _ _ l0_9 t958 a0_7 t960 t961 _ ?side1 ?side2 A24.out).mono ?_); (case side1 => exact Kd.xbP HR0_9.out bB); (case side2 => exact HC0_9.out); rintro e w62 ⟨rfl, hb⟩; refine ⟨_, rfl, ?_⟩; replace HO_4 := Aside0.mk (Kd.xbL (by (with_reducible repeat (first | apply Kd.xbJ | apply Kd.xbK | apply Kd.R_drew)); exact (Kd.R_mono (Kd.R_far (p := ⟨gb955, 4, none⟩) (Kd.R_far (p := ⟨gb955, 3, none⟩) (Kd.xdZ HO_4.out BK955.out (by decide)) (fun _ hk => hk.2) (.int .i64 t958)) (fun _ hk => hk.2) (.int .i64 t958)) (fun _ h_ => h_.1))) hb); replace HO_6 := Aside0.mk (Kd.xbL (by (with_reducible repeat (first | apply Kd.xbJ | apply Kd.xbK | apply Kd.R_drew)); exact (Kd.R_mono (Kd.R_far (p := ⟨gb955, 4, none⟩) (Kd.R_far (p := ⟨gb955, 3, none⟩) (Kd.R_mono HO_6.out (fun k_ hk => (⟨hk, hk.2⟩ : _ ∧ k_ ≠ gb955))) (fun _ hk => hk.2) (.int .i64 t958)) (fun _ hk => hk.2) (.int .i64 t958)) (fun _ h_ => h_.1))) hb); replace BK945 := Aside0.mk (xaK (g := gb945) (o := .cells #[.int .i64 a0_0, .int .i64 a0_1, .int .i64 a0_2, .int .i64 a0_3, .int .i64 a0_4, .int .i64 a0_5, .int .i64 a0_6, .int .i64 a0_7, .int .i64 a0_8, .slice A0_9 l0_9.length c0_9] 117 (0, 0)) (by (with_reducible repeat (first | refine xaH ?_ _ | refine xaF ?_ | refine xaE ?_ _)); refine xbW ?_ NB945_955.out _; (with_reducible repeat (first | refine xaH ?_ _ | refine xaF ?_ | refine xaE ?_ _)); refine xbW ?_ NB945_955.out _; (with_reducible repeat (first | refine xaH ?_ _ | refine xaF ?_ | refine xaE ?_ _)); exact BK945.out) hb); replace BK955 := Aside0.mk (xaK (g := gb955) (o := .cells #[.int .i64 (rd t946 x24_1), .int .i64 (rd t946 (ji16)), .int .i64 t956, .int .i64 t958, .int .i64 t958] 145 (0, 0)) (by (with_reducible repeat (first | refine xaH ?_ _ | refine xaF ?_ | refine xaE ?_ _)); refine xaS (cs := #[.int .i64 (rd t946 x24_1), .int .i64 (rd t946 (ji16)), .int .i64 t956, .int .i64 t958, .int .i64 0]) ?_ 4 _ rfl; (with_reducible repeat (first | refine xaH ?_ _ | refine xaF ?_ | refine xaE ?_ _)); refine xaS (cs := #[.int .i64 (rd t946 x24_1), .int .i64 (rd t946 (ji16)), .int .i64 t956, .int .i64 0, .int .i64 0]) ?_ 3 _ rfl; (with_reducible repeat (first | refine xaH ?_ _ | refine xaF ?_ | refine xaE ?_ _)); exact BK955.out) hb); replace HB := bS hb; (try clear hb); (try clear hb2); (try clear hk); (try clear hi); obtain ⟨_,_,_,_,_,_,_,_,_,_⟩ := blk5 BK955))
               go_ret2
               exact ⟨_, by first | rfl | (simp [xbD, xbC] <;> rfl) | (simp only [← hji4, ← hji16]; first | rfl | (simp [xbD, xbC] <;> rfl)) | (simp [*, xbD, xbC] <;> rfl), by first | exact Kd.R_nil _ _ _ _ _ | exact Kd.N_nil _ _ _ _ _ | exact Kd.V_nil _ _ _ _ _ | exact Kd.Q_nil _ _ _ _ _ | exact Kd.S_nil _ _ _ _ _, bB⟩
             ·
              rw [if_neg c23] at H
              have c23b0 : decide (0 < a0_7) = false := decide_eq_false c23
              clear c23
              by_cases c64 : x6_1.length < 3518437208883
              ·
               rw [if_pos c64] at H
               have LMc64 := Aside0.mk c64;clear c64
               obtain ⟨y965, hy965⟩ : ∃ y_ : List (S145), y_ = (x6_1 ++ [(⟨rd t946 x24_1, rd t946 (ji16), t956, t958, t958⟩ : S145)]) := ⟨_, rfl⟩
               replace H : (xaN.l0 k1 t946 y965 ji4 ji16 a0_0 a0_1 a0_2 a0_3 a0_4 a0_5 a0_6 a0_7 a0_8 l0_9) = some (r1, r2) := by first | (rw [hy965]; with_reducible exact H) | (have H2_ := (Option.bind_some _ _).symm.trans H; rw [hy965]; with_reducible exact H2_) | (have H2_ := (Option.bind_some _ _).symm.trans H; with_reducible exact H2_) | with_reducible exact H | (rw [hy965]; exact H) | exact H
               have Ny965 := Aside0.mk hy965;clear hy965;have H' := Aside0.mk H;clear H
               try go_wp2
               replace HO_4 := Aside0.mk (Kd.R_drew HO_4.out)
               replace HO_6 := Aside0.mk (Kd.R_drew HO_6.out)
               replace BK945 := Aside0.mk (xaF BK945.out)
               replace HB := Aside0.mk (xaM HB.out)
               have p953 : 0 ≤ (x24_1 : Int) := of_decide_eq_true tA
               have q953 : x24_1 < (t946.length : Int) := of_decide_eq_true tA
               obtain ⟨ad953, e953, hx953_0⟩ := Kd.at_int (Kd.R_reads' HO_4.out).2.2 x24_1 p953 q953
               cases e953
               replace p953 := eq_true p953;replace q953 := eq_true q953
               have p954 : 0 ≤ ((ji16) : Int) := of_decide_eq_true tA
               have q954 : (ji16) < (t946.length : Int) := of_decide_eq_true tA
               obtain ⟨ad954, e954, hx954_0⟩ := Kd.at_int (Kd.R_reads' HO_4.out).2.2 (ji16) p954 q954
               obtain rfl : ad953 = ad954 := (by injection e954)
               replace p954 := eq_true p954;replace q954 := eq_true q954
               refine start_ (n := 12) (S := fun w' => w'.cell? (ad953.add (x24_1).toNat) = some (.int .i64 (rd t946 x24_1)) ∧ w'.cell? (ad953.add ((ji16)).toNat) = some (.int .i64 (rd t946 (ji16)))) (ds := []) #[false, false, false, false, false, false, false, false, false, false, false, false] (by kernel_rfl) rfl rfl ⟨hx953_0, hx954_0⟩ (fun hHeld => ?_); refine xeP xaN.tab8 xaN.bits8 (fun HT_ HW_ => ?_)
               generalize wr.drew = w65 at HO_4 HO_6 BK945 HB hx953_0 hx954_0 hHeld ⊢
               refine pure_ (i := 0) (N := some 27) (v := ?_) (a' := ?_) #[true, false, false, false, false, false, false, false, false, false, false, false] rfl rfl (any_of HT_.out (by kernel_rfl)) (fun _ _ _ h => h) (Or.inl ⟨by rfl, ?_⟩) ?_ ?_
               rotate_left
               ·
                intro w'
                go_simp
                with_reducible rfl
               rotate_left
               ·
                simp only [Act.put, List.setIfInBounds_toArray, List.set_cons_zero, List.set_cons_succ, i64_w, i32_w]
                rfl
               refine pure_ (i := 1) (N := some 28) (v := ?_) (a' := ?_) #[true, true, false, false, false, false, false, false, false, false, false, false] rfl rfl (any_of HT_.out (by kernel_rfl)) (fun _ _ _ h => h) (Or.inl ⟨by rfl, ?_⟩) ?_ ?_
               rotate_left
               ·
                intro w'
                go_simp
                with_reducible rfl
               rotate_left
               ·
                simp only [Act.put, List.setIfInBounds_toArray, List.set_cons_zero, List.set_cons_succ, i64_w, i32_w]
                rfl
               refine pure_ (i := 2) (N := some 29) (v := ?_) (a' := ?_) #[true, true, true, false, false, false, false, false, false, false, false, false] rfl rfl (any_of HT_.out (by kernel_rfl)) (fun _ _ _ h => h) (Or.inl ⟨by rfl, ?_⟩) ?_ ?_
               rotate_left
               ·
                intro w'
                go_simp
                with_reducible rfl
               rotate_left
               ·
                simp only [Act.put, List.setIfInBounds_toArray, List.set_cons_zero, List.set_cons_succ, i64_w, i32_w]
                rfl
               refine pure_ (i := 4) (N := some 31) (v := ?_) (a' := ?_) #[true, true, true, false, true, false, false, false, false, false, false, false] rfl rfl (any_of HT_.out (by kernel_rfl)) (fun _ _ _ h => h) (Or.inl ⟨by rfl, ?_⟩) ?_ ?_
               rotate_left
               ·
                intro w'
                go_simp
                with_reducible rfl
               rotate_left
               ·
                simp only [Act.put, List.setIfInBounds_toArray, List.set_cons_zero, List.set_cons_succ, i64_w, i32_w]
                rfl
               refine pure_ (i := 5) (N := some 32) (v := ?_) (a' := ?_) #[true, true, true, false, true, true, false, false, false, false, false, false] rfl rfl (any_of HT_.out (by kernel_rfl)) (fun _ _ _ h => h) (Or.inl ⟨by rfl, ?_⟩) ?_ ?_
               rotate_left
               ·
                intro w'
                go_simp
                with_reducible rfl
               rotate_left
               ·
                simp only [Act.put, List.setIfInBounds_toArray, List.set_cons_zero, List.set_cons_succ, i64_w, i32_w]
                rfl
               refine pure_ (i := 6) (N := some 33) (v := ?_) (a' := ?_) #[true, true, true, false, true, true, true, false, false, false, false, false] rfl rfl (any_of HT_.out (by kernel_rfl)) (fun _ _ _ h => h) (Or.inl ⟨by rfl, ?_⟩) ?_ ?_
               rotate_left
               ·
                intro w'
                go_simp
                with_reducible rfl
               rotate_left
               ·
                simp only [Act.put, List.setIfInBounds_toArray, List.set_cons_zero, List.set_cons_succ, i64_w, i32_w]
                rfl
               refine pure_ (i := 7) (N := some 34) (v := ?_) (a' := ?_) #[true, true, true, false, true, true, true, true, false, false, false, false] rfl rfl (any_of HT_.out (by kernel_rfl)) (fun _ _ _ h => h) (Or.inl ⟨by rfl, ?_⟩) ?_ ?_
               rotate_left
               ·
                intro w'
                go_simp
                with_reducible rfl
               rotate_left
               ·
                simp only [Act.put, List.setIfInBounds_toArray, List.set_cons_zero, List.set_cons_succ, i64_w, i32_w]
                rfl
               refine take_ (i := 3) (N := some 30) (v := ?_) (a' := ?_) #[true, true, true, true, true, true, true, true, false, false, false, false] rfl rfl (xdF HT_.out HW_.out (by kernel_rfl)) (fun _ _ _ h => h) (Or.inl ⟨by rfl, ?_⟩) hHeld ?_ ?_
               rotate_left
               ·
                rintro w' ⟨s0, s1⟩
                go_simp
                with_reducible rfl
               rotate_left
               ·
                simp only [Act.put, List.setIfInBounds_toArray, List.set_cons_zero, List.set_cons_succ, i64_w, i32_w]
                rfl
               refine take_ (i := 8) (N := some 35) (v := ?_) (a' := ?_) #[true, true, true, true, true, true, true, true, true, false, false, false] rfl rfl (xdF HT_.out HW_.out (by kernel_rfl)) (fun _ _ _ h => h) (Or.inl ⟨by rfl, ?_⟩) hHeld ?_ ?_
               rotate_left
               ·
                rintro w' ⟨s0, s1⟩
                go_simp
                with_reducible rfl
               rotate_left
               ·
                simp only [Act.put, List.setIfInBounds_toArray, List.set_cons_zero, List.set_cons_succ, i64_w, i32_w]
                rfl
               refine pure_ (i := 9) (N := some 36) (v := ?_) (a' := ?_) #[true, true, true, true, true, true, true, true, true, true, false, false] rfl rfl (any_of HT_.out (by kernel_rfl)) (fun _ _ _ h => h) (Or.inl ⟨by rfl, ?_⟩) ?_ ?_
               rotate_left
               ·
                intro w'
                go_simp
                with_reducible rfl
               rotate_left
               ·
                simp only [Act.put, List.setIfInBounds_toArray, List.set_cons_zero, List.set_cons_succ, i64_w, i32_w]
                rfl
               refine one_ (i := 10) (N := some 8) #[true, true, true, true, true, true, true, true, true, true, true, false] rfl rfl (one_of HT_.out (by kernel_rfl)) (by decide) (fun K hK => ?_)
               refine xgJ ?hg (N := 8) ?hd (cs := #[.int .i64 0, .int .i64 0, .int .i64 0, .int .i64 0, .int .i64 0]) (t := 145) ?hr ?_; (case hd => rfl); (case hg => rfl); (case hr => first | (go_simp; done) | (go_simp; rfl))
               intro gb955 hg w66 hbox hb
               have HS0_ := (hb.cell (World.block_lt_of_cell? _ _ (hHeld.1))).trans (hHeld.1)
               have HS1_ := (hb.cell (World.block_lt_of_cell? _ _ (hHeld.2))).trans (hHeld.2)
               replace HO_4 := Aside0.mk (Kd.xbL (bR HO_4) hb)
               replace HO_6 := Aside0.mk (Kd.xbL (Kd.xgK (bR HO_6) gb955 (Nat.le_of_eq hg.symm)) hb)
               have BK955 := Aside0.mk (hbox)
               have GW955 := bG hg
               have GE955 := bG hg
               replace HB := bS hb
               have NB945_955 := Aside0.mk ((by rw [hg]; exact Nat.ne_of_lt (blk_lt (g := gb945) (o := .cells #[.int .i64 a0_0, .int .i64 a0_1, .int .i64 a0_2, .int .i64 a0_3, .int .i64 a0_4, .int .i64 a0_5, .int .i64 a0_6, .int .i64 a0_7, .int .i64 a0_8, .slice A0_9 l0_9.length c0_9] 117 (0, 0)) (bk BK945)) : gb945 ≠ gb955))
               have NB955_945 := Aside0.mk ((by rw [hg]; exact Nat.ne_of_gt (blk_lt (g := gb945) (o := .cells #[.int .i64 a0_0, .int .i64 a0_1, .int .i64 a0_2, .int .i64 a0_3, .int .i64 a0_4, .int .i64 a0_5, .int .i64 a0_6, .int .i64 a0_7, .int .i64 a0_8, .slice A0_9 l0_9.length c0_9] 117 (0, 0)) (bk BK945)) : gb955 ≠ gb945))
               replace BK945 := bK BK945 hb
               clear hb hbox hg
               refine hK.out _ _ ⟨HS0_, HS1_⟩ (fun hHeld => ?_)
               clear hK K
               refine norm_ (a' := ?_) ?_ ?_
               rotate_left
               ·
                show Act.put _ (some 8) _ = _
                simp only [Act.put, List.setIfInBounds_toArray, List.set_cons_zero, List.set_cons_succ, i64_w, i32_w]
                rfl
               refine one_ (i := 11) (N := none) #[true, true, true, true, true, true, true, true, true, true, true, true] rfl rfl (one_of HT_.out (by kernel_rfl)) (by decide) (fun K hK => ?_)
               have hs67 : w66.cell? ⟨gb955, 0, none⟩ = some (.int .i64 0) := (xaA BK955.out 0).trans rfl
               have hfs67 := xaB BK955.out 0;have hns67_0 := NB945_955.out;have hms67_0 := NB955_945.out
               have hs68 : w66.cell? ⟨gb955, 1, none⟩ = some (.int .i64 0) := (xaA BK955.out 1).trans rfl
               have hfs68 := xaB BK955.out 1;have hns68_0 := NB945_955.out;have hms68_0 := NB955_945.out
               have hs69 : w66.cell? ⟨gb955, 2, none⟩ = some (.int .i64 0) := (xaA BK955.out 2).trans rfl
               have hfs69 := xaB BK955.out 2;have hns69_0 := NB945_955.out;have hms69_0 := NB955_945.out
               have hs70 : w66.cell? ⟨gb955, 3, none⟩ = some (.int .i64 0) := (xaA BK955.out 3).trans rfl
               have hfs70 := xaB BK955.out 3;have hns70_0 := NB945_955.out;have hms70_0 := NB955_945.out
               have hs71 : w66.cell? ⟨gb955, 4, none⟩ = some (.int .i64 0) := (xaA BK955.out 4).trans rfl
               have hfs71 := xaB BK955.out 4;have hns71_0 := NB945_955.out;have hms71_0 := NB955_945.out
               refine skip_ (w1 := ?_) (by rfl) rfl ?_ ?_
               rotate_left
               ·
                go_simp
                rfl
               refine hK.out _ _ ⟨((cell_far (p := ⟨gb955, _, none⟩) (by first | exact Kd.xaG (Kd.R_ne HO_4.out BK955.out (by decide)) | (rw [add_block]; exact Kd.xaG (Kd.R_ne HO_4.out BK955.out (by decide))) | (show (Addr.add _ _).block ≠ _; rw [add_block]; exact Kd.xaG (Kd.R_ne HO_4.out BK955.out (by decide))) | (dsimp only; exact Kd.xaG (Kd.R_ne HO_4.out BK955.out (by decide)))) _).trans (((cell_far (p := ⟨gb955, _, none⟩) (by first | exact Kd.xaG (Kd.R_ne HO_4.out BK955.out (by decide)) | (rw [add_block]; exact Kd.xaG (Kd.R_ne HO_4.out BK955.out (by decide))) | (show (Addr.add _ _).block ≠ _; rw [add_block]; exact Kd.xaG (Kd.R_ne HO_4.out BK955.out (by decide))) | (dsimp only; exact Kd.xaG (Kd.R_ne HO_4.out BK955.out (by decide)))) _).trans (((cell_far (p := ⟨gb955, _, none⟩) (by first | exact Kd.xaG (Kd.R_ne HO_4.out BK955.out (by decide)) | (rw [add_block]; exact Kd.xaG (Kd.R_ne HO_4.out BK955.out (by decide))) | (show (Addr.add _ _).block ≠ _; rw [add_block]; exact Kd.xaG (Kd.R_ne HO_4.out BK955.out (by decide))) | (dsimp only; exact Kd.xaG (Kd.R_ne HO_4.out BK955.out (by decide)))) _).trans (((cell_far (p := ⟨gb955, _, none⟩) (by first | exact Kd.xaG (Kd.R_ne HO_4.out BK955.out (by decide)) | (rw [add_block]; exact Kd.xaG (Kd.R_ne HO_4.out BK955.out (by decide))) | (show (Addr.add _ _).block ≠ _; rw [add_block]; exact Kd.xaG (Kd.R_ne HO_4.out BK955.out (by decide))) | (dsimp only; exact Kd.xaG (Kd.R_ne HO_4.out BK955.out (by decide)))) _).trans (((cell_far (p := ⟨gb955, _, none⟩) (by first | exact Kd.xaG (Kd.R_ne HO_4.out BK955.out (by decide)) | (rw [add_block]; exact Kd.xaG (Kd.R_ne HO_4.out BK955.out (by decide))) | (show (Addr.add _ _).block ≠ _; rw [add_block]; exact Kd.xaG (Kd.R_ne HO_4.out BK955.out (by decide))) | (dsimp only; exact Kd.xaG (Kd.R_ne HO_4.out BK955.out (by decide)))) _).trans (hHeld.1)))))))))), ((cell_far (p := ⟨gb955, _, none⟩) (by first | exact Kd.xaG (Kd.R_ne HO_4.out BK955.out (by decide)) | (rw [add_block]; exact Kd.xaG (Kd.R_ne HO_4.out BK955.out (by decide))) | (show (Addr.add _ _).block ≠ _; rw [add_block]; exact Kd.xaG (Kd.R_ne HO_4.out BK955.out (by decide))) | (dsimp only; exact Kd.xaG (Kd.R_ne HO_4.out BK955.out (by decide)))) _).trans (((cell_far (p := ⟨gb955, _, none⟩) (by first | exact Kd.xaG (Kd.R_ne HO_4.out BK955.out (by decide)) | (rw [add_block]; exact Kd.xaG (Kd.R_ne HO_4.out BK955.out (by decide))) | (show (Addr.add _ _).block ≠ _; rw [add_block]; exact Kd.xaG (Kd.R_ne HO_4.out BK955.out (by decide))) | (dsimp only; exact Kd.xaG (Kd.R_ne HO_4.out BK955.out (by decide)))) _).trans (((cell_far (p := ⟨gb955, _, none⟩) (by first | exact Kd.xaG (Kd.R_ne HO_4.out BK955.out (by decide)) | (rw [add_block]; exact Kd.xaG (Kd.R_ne HO_4.out BK955.out (by decide))) | (show (Addr.add _ _).block ≠ _; rw [add_block]; exact Kd.xaG (Kd.R_ne HO_4.out BK955.out (by decide))) | (dsimp only; exact Kd.xaG (Kd.R_ne HO_4.out BK955.out (by decide)))) _).trans (((cell_far (p := ⟨gb955, _, none⟩) (by first | exact Kd.xaG (Kd.R_ne HO_4.out BK955.out (by decide)) | (rw [add_block]; exact Kd.xaG (Kd.R_ne HO_4.out BK955.out (by decide))) | (show (Addr.add _ _).block ≠ _; rw [add_block]; exact Kd.xaG (Kd.R_ne HO_4.out BK955.out (by decide))) | (dsimp only; exact Kd.xaG (Kd.R_ne HO_4.out BK955.out (by decide)))) _).trans (((cell_far (p := ⟨gb955, _, none⟩) (by first | exact Kd.xaG (Kd.R_ne HO_4.out BK955.out (by decide)) | (rw [add_block]; exact Kd.xaG (Kd.R_ne HO_4.out BK955.out (by decide))) | (show (Addr.add _ _).block ≠ _; rw [add_block]; exact Kd.xaG (Kd.R_ne HO_4.out BK955.out (by decide))) | (dsimp only; exact Kd.xaG (Kd.R_ne HO_4.out BK955.out (by decide)))) _).trans (hHeld.2))))))))))⟩ (fun hHeld => ?_)
               clear hK K
               refine done_ (xgX HT_.out (by kernel_rfl)) ?_
               have hnb72 := NB945_955.out;have hnc72 := NB955_945.out
               obtain ⟨_,_,_,_,_,_,_,_,_,_,_,_,_,_,_,_,_,_,_,_⟩ := blk10 BK945
               obtain ⟨_,_,_,_,_,_,_,_,_,_⟩ := blk5 BK955
               try go_wp2_with (first | ((with_reducible refine gG 163 ?_); refine goA (some 44) Tryz.func163 #[.agg #[.int .i64 a0_8, .slice A0_9 l0_9.length c0_9], .int .i64 (rd t946 x24_1), .int .i64 a0_6] ?_; (with_reducible refine (xcA.calls a0_8 _ _ l0_9 (rd t946 x24_1) a0_6 t956 t957 _ ?side1 ?side2 A19.out).mono ?_); (case side1 => exact Kd.xbP HR0_9.out bB); (case side2 => exact HC0_9.out); rintro e w75 ⟨rfl, hb⟩; refine ⟨_, rfl, ?_⟩; replace HO_4 := Aside0.mk (Kd.xbL (by (with_reducible repeat (first | apply Kd.xbJ | apply Kd.xbK | apply Kd.R_drew)); exact (Kd.R_mono (Kd.R_far (p := ⟨gb955, 4, none⟩) (Kd.R_far (p := ⟨gb955, 3, none⟩) (Kd.R_far (p := ⟨gb955, 2, none⟩) (Kd.R_far (p := ⟨gb955, 1, none⟩) (Kd.R_far (p := ⟨gb955, 0, none⟩) (Kd.xdZ HO_4.out BK955.out (by decide)) (fun _ hk => hk.2) (.int .i64 (rd t946 x24_1))) (fun _ hk => hk.2) (.int .i64 (rd t946 (ji16)))) (fun _ hk => hk.2) (.int .i64 0)) (fun _ hk => hk.2) (.int .i64 0)) (fun _ hk => hk.2) (.int .i64 0)) (fun _ h_ => h_.1))) hb); replace HO_6 := Aside0.mk (Kd.xbL (by (with_reducible repeat (first | apply Kd.xbJ | apply Kd.xbK | apply Kd.R_drew)); exact (Kd.R_mono (Kd.R_far (p := ⟨gb955, 4, none⟩) (Kd.R_far (p := ⟨gb955, 3, none⟩) (Kd.R_far (p := ⟨gb955, 2, none⟩) (Kd.R_far (p := ⟨gb955, 1, none⟩) (Kd.R_far (p := ⟨gb955, 0, none⟩) (Kd.R_mono HO_6.out (fun k_ hk => (⟨hk, hk.2⟩ : _ ∧ k_ ≠ gb955))) (fun _ hk => hk.2) (.int .i64 (rd t946 x24_1))) (fun _ hk => hk.2) (.int .i64 (rd t946 (ji16)))) (fun _ hk => hk.2) (.int .i64 0)) (fun _ hk => hk.2) (.int .i64 0)) (fun _ hk => hk.2) (.int .i64 0)) (fun _ h_ => h_.1))) hb); replace BK945 := Aside0.mk (xaK (g := gb945) (o := .cells #[.int .i64 a0_0, .int .i64 a0_1, .int .i64 a0_2, .int .i64 a0_3, .int .i64 a0_4, .int .i64 a0_5, .int .i64 a0_6, .int .i64 a0_7, .int .i64 a0_8, .slice A0_9 l0_9.length c0_9] 117 (0, 0)) (by (with_reducible repeat (first | refine xaH ?_ _ | refine xaF ?_ | refine xaE ?_ _)); refine xbW ?_ NB945_955.out _; (with_reducible repeat (first | refine xaH ?_ _ | refine xaF ?_ | refine xaE ?_ _)); refine xbW ?_ NB945_955.out _; (with_reducible repeat (first | refine xaH ?_ _ | refine xaF ?_ | refine xaE ?_ _)); refine xbW ?_ NB945_955.out _; (with_reducible repeat (first | refine xaH ?_ _ | refine xaF ?_ | refine xaE ?_ _)); refine xbW ?_ NB945_955.out _; (with_reducible repeat (first | refine xaH ?_ _ | refine xaF ?_ | refine xaE ?_ _)); refine xbW ?_ NB945_955.out _; (with_reducible repeat (first | refine xaH ?_ _ | refine xaF ?_ | refine xaE ?_ _)); exact BK945.out) hb); replace BK955 := Aside0.mk (xaK (g := gb955) (o := .cells #[.int .i64 (rd t946 x24_1), .int .i64 (rd t946 (ji16)), .int .i64 0, .int .i64 0, .int .i64 0] 145 (0, 0)) (by (with_reducible repeat (first | refine xaH ?_ _ | refine xaF ?_ | refine xaE ?_ _)); refine xaS (cs := #[.int .i64 (rd t946 x24_1), .int .i64 (rd t946 (ji16)), .int .i64 0, .int .i64 0, .int .i64 0]) ?_ 4 _ rfl; (with_reducible repeat (first | refine xaH ?_ _ | refine xaF ?_ | refine xaE ?_ _)); refine xaS (cs := #[.int .i64 (rd t946 x24_1), .int .i64 (rd t946 (ji16)), .int .i64 0, .int .i64 0, .int .i64 0]) ?_ 3 _ rfl; (with_reducible repeat (first | refine xaH ?_ _ | refine xaF ?_ | refine xaE ?_ _)); refine xaS (cs := #[.int .i64 (rd t946 x24_1), .int .i64 (rd t946 (ji16)), .int .i64 0, .int .i64 0, .int .i64 0]) ?_ 2 _ rfl; (with_reducible repeat (first | refine xaH ?_ _ | refine xaF ?_ | refine xaE ?_ _)); refine xaS (cs := #[.int .i64 (rd t946 x24_1), .int .i64 0, .int .i64 0, .int .i64 0, .int .i64 0]) ?_ 1 _ rfl; (with_reducible repeat (first | refine xaH ?_ _ | refine xaF ?_ | refine xaE ?_ _)); refine xaS (cs := #[.int .i64 0, .int .i64 0, .int .i64 0, .int .i64 0, .int .i64 0]) ?_ 0 _ rfl; (with_reducible repeat (first | refine xaH ?_ _ | refine xaF ?_ | refine xaE ?_ _)); exact BK955.out) hb); replace HB := bS hb; (try clear hb); (try clear hb2); (try clear hk); (try clear hi); obtain ⟨_,_,_,_,_,_,_,_,_,_⟩ := blk5 BK955; obtain ⟨_,_,_,_,_,_,_,_,_,_,_,_,_,_,_,_,_,_,_,_⟩ := blk10 BK945) | ((with_reducible refine xdX (f := 163) rfl ?_); refine goesL_ (some 58) rfl rfl Tryz.func163 (by kernel_rfl) rfl #[.agg #[.int .i64 a0_8, .slice A0_9 l0_9.length c0_9], .int .i64 (rd t946 (ji16)), .int .i64 a0_6] rfl (by (try simp only [List.map_toArray, List.map_cons, List.map_nil]); first | done | (simp only [hji16]; rfl) | rfl | (simp only [List.length_drop, List.length_take]; rfl)) ?_; (with_reducible refine (xcA.calls a0_8 _ _ l0_9 (rd t946 (ji16)) a0_6 t958 t959 _ ?side1 ?side2 A21.out).mono ?_); (case side1 => exact Kd.xbP HR0_9.out bB); (case side2 => exact HC0_9.out); rintro e w78 ⟨rfl, hb⟩; refine ⟨_, rfl, ?_⟩; replace HO_4 := Aside0.mk (Kd.xbL (by (with_reducible repeat (first | apply Kd.xbJ | apply Kd.xbK | apply Kd.R_drew)); exact (Kd.R_mono (Kd.R_far (p := ⟨gb955, 2, none⟩) (Kd.xdZ HO_4.out BK955.out (by decide)) (fun _ hk => hk.2) (.int .i64 t956)) (fun _ h_ => h_.1))) hb); replace HO_6 := Aside0.mk (Kd.xbL (by (with_reducible repeat (first | apply Kd.xbJ | apply Kd.xbK | apply Kd.R_drew)); exact (Kd.R_mono (Kd.R_far (p := ⟨gb955, 2, none⟩) (Kd.R_mono HO_6.out (fun k_ hk => (⟨hk, hk.2⟩ : _ ∧ k_ ≠ gb955))) (fun _ hk => hk.2) (.int .i64 t956)) (fun _ h_ => h_.1))) hb); replace BK945 := Aside0.mk (xaK (g := gb945) (o := .cells #[.int .i64 a0_0, .int .i64 a0_1, .int .i64 a0_2, .int .i64 a0_3, .int .i64 a0_4, .int .i64 a0_5, .int .i64 a0_6, .int .i64 a0_7, .int .i64 a0_8, .slice A0_9 l0_9.length c0_9] 117 (0, 0)) (by (with_reducible repeat (first | refine xaH ?_ _ | refine xaF ?_ | refine xaE ?_ _)); refine xbW ?_ NB945_955.out _; (with_reducible repeat (first | refine xaH ?_ _ | refine xaF ?_ | refine xaE ?_ _)); exact BK945.out) hb); replace BK955 := Aside0.mk (xaK (g := gb955) (o := .cells #[.int .i64 (rd t946 x24_1), .int .i64 (rd t946 (ji16)), .int .i64 t956, .int .i64 0, .int .i64 0] 145 (0, 0)) (by (with_reducible repeat (first | refine xaH ?_ _ | refine xaF ?_ | refine xaE ?_ _)); refine xaS (cs := #[.int .i64 (rd t946 x24_1), .int .i64 (rd t946 (ji16)), .int .i64 0, .int .i64 0, .int .i64 0]) ?_ 2 _ rfl; (with_reducible repeat (first | refine xaH ?_ _ | refine xaF ?_ | refine xaE ?_ _)); exact BK955.out) hb); replace HB := bS hb; (try clear hb); (try clear hb2); (try clear hk); (try clear hi); obtain ⟨_,_,_,_,_,_,_,_,_,_⟩ := blk5 BK955; obtain ⟨_,_,_,_,_,_,_,_,_,_,_,_,_,_,_,_,_,_,_,_⟩ := blk10 BK945) | ((with_reducible refine xaR (b := .append) (xs := #[.tmp 85, .tmp 87]) rfl ?_); at_builtin; refine Kd.xbZ k145 (w0 := w) w.heap.size rfl (.tmp 85) (.tmp 87) 139 145 (.agg #[(.int .i64 0), (.int .i64 0), (.int .i64 0), (.int .i64 0), (.int .i64 0)]) 40 rfl Tryz.underlying139 info145 rfl (by decide) (by omega) u6 x6_1 (⟨rd t946 x24_1, rd t946 (ji16), t956, t958, t958⟩ : S145) [.int .i64 (rd t946 x24_1), .int .i64 (rd t946 (ji16)), .int .i64 t956, .int .i64 t958, .int .i64 t958] (fun k_ => k_ ≠ gb955) (fun _ => False) rfl (by first | (go_simp; done) | (go_simp; rfl)) ?aP (fun _ hk => hk.elim) ?aF ?aO ?aB ?aS ?aL ?_; (case aP => exact k145_mkM _ _ _ (⟨rd t946 x24_1, rd t946 (ji16), t956, t958, t958⟩ : S145)); (case aB => exact bB); (case aF => exact (fun k_ hk => Kd.freshB (g := gb955) (o := .cells #[.int .i64 (rd t946 x24_1), .int .i64 (rd t946 (ji16)), .int .i64 t956, .int .i64 t958, .int .i64 t958] 145 (0, 0)) (by (with_reducible repeat (first | refine xaH ?_ _ | refine xaF ?_ | refine xaE ?_ _)); refine xaS (cs := #[.int .i64 (rd t946 x24_1), .int .i64 (rd t946 (ji16)), .int .i64 t956, .int .i64 t958, .int .i64 0]) ?_ 4 _ rfl; (with_reducible repeat (first | refine xaH ?_ _ | refine xaF ?_ | refine xaE ?_ _)); refine xaS (cs := #[.int .i64 (rd t946 x24_1), .int .i64 (rd t946 (ji16)), .int .i64 t956, .int .i64 0, .int .i64 0]) ?_ 3 _ rfl; (with_reducible repeat (first | refine xaH ?_ _ | refine xaF ?_ | refine xaE ?_ _)); exact BK955.out) k_ hk)); (case aO => exact (by (with_reducible repeat (first | apply Kd.xbJ | apply Kd.xbK | apply Kd.R_drew)); exact Kd.R_mono (Kd.R_far (p := ⟨gb955, 4, none⟩) (Kd.R_far (p := ⟨gb955, 3, none⟩) (Kd.R_mono HO_6.out (fun k_ hk => (⟨hk, hk.2⟩ : _ ∧ k_ ≠ gb955))) (fun _ hk => hk.2) (.int .i64 t958)) (fun _ hk => hk.2) (.int .i64 t958)) (fun _ hk => hk.1.2))); (case aS => exact (xbG bB)); (case aL => have := LMc64.out; omega); intro v966 w81 ho hb hg hat; rw [← Ny965.out] at ho; replace HO_4 := Aside0.mk (Kd.R_over' (by (with_reducible repeat (first | apply Kd.xbJ | apply Kd.xbK | apply Kd.R_drew)); exact (Kd.R_mono (Kd.R_far (p := ⟨gb955, 4, none⟩) (Kd.R_far (p := ⟨gb955, 3, none⟩) (Kd.xdZ HO_4.out BK955.out (by decide)) (fun _ hk => hk.2) (.int .i64 t958)) (fun _ hk => hk.2) (.int .i64 t958)) (fun _ h_ => h_.1))) (Kd.R_typed (by (with_reducible repeat (first | apply Kd.xbJ | apply Kd.xbK | apply Kd.R_drew)); exact (Kd.R_mono (Kd.R_far (p := ⟨gb955, 4, none⟩) (Kd.R_far (p := ⟨gb955, 3, none⟩) (Kd.R_mono HO_6.out (fun k_ hk => (⟨hk, hk.2⟩ : _ ∧ k_ ≠ gb955))) (fun _ hk => hk.2) (.int .i64 t958)) (fun _ hk => hk.2) (.int .i64 t958)) (fun _ h_ => h_.1)))) (by decide) hg); replace BK945 := Aside0.mk (xcG (g := gb945) (o := .cells #[.int .i64 a0_0, .int .i64 a0_1, .int .i64 a0_2, .int .i64 a0_3, .int .i64 a0_4, .int .i64 a0_5, .int .i64 a0_6, .int .i64 a0_7, .int .i64 a0_8, .slice A0_9 l0_9.length c0_9] 117 (0, 0)) (by (with_reducible repeat (first | refine xaH ?_ _ | refine xaF ?_ | refine xaE ?_ _)); refine xbW ?_ NB945_955.out _; (with_reducible repeat (first | refine xaH ?_ _ | refine xaF ?_ | refine xaE ?_ _)); refine xbW ?_ NB945_955.out _; (with_reducible repeat (first | refine xaH ?_ _ | refine xaF ?_ | refine xaE ?_ _)); exact BK945.out) hg (Kd.R_ne HO_6.out BK945.out (by decide))); replace BK955 := Aside0.mk (xcG (g := gb955) (o := .cells #[.int .i64 (rd t946 x24_1), .int .i64 (rd t946 (ji16)), .int .i64 t956, .int .i64 t958, .int .i64 t958] 145 (0, 0)) (by (with_reducible repeat (first | refine xaH ?_ _ | refine xaF ?_ | refine xaE ?_ _)); refine xaS (cs := #[.int .i64 (rd t946 x24_1), .int .i64 (rd t946 (ji16)), .int .i64 t956, .int .i64 t958, .int .i64 0]) ?_ 4 _ rfl; (with_reducible repeat (first | refine xaH ?_ _ | refine xaF ?_ | refine xaE ?_ _)); refine xaS (cs := #[.int .i64 (rd t946 x24_1), .int .i64 (rd t946 (ji16)), .int .i64 t956, .int .i64 0, .int .i64 0]) ?_ 3 _ rfl; (with_reducible repeat (first | refine xaH ?_ _ | refine xaF ?_ | refine xaE ?_ _)); exact BK955.out) hg (Kd.R_away HO_6.out (fun _ hk => hk.2))); replace HB := Aside0.mk (hb); have HO967 := Aside0.mk (ho); clear HO_6; clear ho hb hg hat))
               go_roundg k1
               case measure => have := HK1.out; omega
               case rel => exact ⟨(y965), (ji16), (by first | rfl | (simp; done) | (simp only [← hji16] <;> (first | rfl | simp)) | (simp [*]; done)), H', ⟨by have := HK1.out; omega⟩, ⟨(bR HO_4)⟩, ⟨by (with_reducible repeat (first | apply Kd.xbJ | apply Kd.xbK | apply Kd.R_drew)); exact Kd.R_mono HO967.out (fun _ hk => trivial)⟩, ⟨(bk BK945)⟩, ⟨bB⟩⟩
              ·
               rw [if_neg c64] at H
               exact absurd H (by simp)
            ·
             rw [if_neg c22] at H
             have c22b0 : (t959 == 0) = false := beq_eq_false_iff_ne.mpr c22
             have c22b1 : (t959 != 0) = true := bne_iff_ne.mpr c22
             simp only [Option.some.injEq, Prod.mk.injEq] at H
             obtain ⟨rfl, rfl⟩ := H
             try go_wp2
             replace HO_4 := Aside0.mk (Kd.R_drew HO_4.out)
             replace HO_6 := Aside0.mk (Kd.R_drew HO_6.out)
             replace BK945 := Aside0.mk (xaF BK945.out)
             replace HB := Aside0.mk (xaM HB.out)
             have p953 : 0 ≤ (x24_1 : Int) := of_decide_eq_true tA
             have q953 : x24_1 < (t946.length : Int) := of_decide_eq_true tA
             obtain ⟨ad953, e953, hx953_0⟩ := Kd.at_int (Kd.R_reads' HO_4.out).2.2 x24_1 p953 q953
             cases e953
             replace p953 := eq_true p953;replace q953 := eq_true q953
             have p954 : 0 ≤ ((ji16) : Int) := of_decide_eq_true tA
             have q954 : (ji16) < (t946.length : Int) := of_decide_eq_true tA
             obtain ⟨ad954, e954, hx954_0⟩ := Kd.at_int (Kd.R_reads' HO_4.out).2.2 (ji16) p954 q954
             obtain rfl : ad953 = ad954 := (by injection e954)
             replace p954 := eq_true p954;replace q954 := eq_true q954
             refine start_ (n := 12) (S := fun w' => w'.cell? (ad953.add (x24_1).toNat) = some (.int .i64 (rd t946 x24_1)) ∧ w'.cell? (ad953.add ((ji16)).toNat) = some (.int .i64 (rd t946 (ji16)))) (ds := []) #[false, false, false, false, false, false, false, false, false, false, false, false] (by kernel_rfl) rfl rfl ⟨hx953_0, hx954_0⟩ (fun hHeld => ?_); refine xeP xaN.tab8 xaN.bits8 (fun HT_ HW_ => ?_)
             generalize wr.drew = w82 at HO_4 HO_6 BK945 HB hx953_0 hx954_0 hHeld ⊢
             refine pure_ (i := 0) (N := some 27) (v := ?_) (a' := ?_) #[true, false, false, false, false, false, false, false, false, false, false, false] rfl rfl (any_of HT_.out (by kernel_rfl)) (fun _ _ _ h => h) (Or.inl ⟨by rfl, ?_⟩) ?_ ?_
             rotate_left
             ·
              intro w'
              go_simp
              with_reducible rfl
             rotate_left
             ·
              simp only [Act.put, List.setIfInBounds_toArray, List.set_cons_zero, List.set_cons_succ, i64_w, i32_w]
              rfl
             refine pure_ (i := 1) (N := some 28) (v := ?_) (a' := ?_) #[true, true, false, false, false, false, false, false, false, false, false, false] rfl rfl (any_of HT_.out (by kernel_rfl)) (fun _ _ _ h => h) (Or.inl ⟨by rfl, ?_⟩) ?_ ?_
             rotate_left
             ·
              intro w'
              go_simp
              with_reducible rfl
             rotate_left
             ·
              simp only [Act.put, List.setIfInBounds_toArray, List.set_cons_zero, List.set_cons_succ, i64_w, i32_w]
              rfl
             refine pure_ (i := 2) (N := some 29) (v := ?_) (a' := ?_) #[true, true, true, false, false, false, false, false, false, false, false, false] rfl rfl (any_of HT_.out (by kernel_rfl)) (fun _ _ _ h => h) (Or.inl ⟨by rfl, ?_⟩) ?_ ?_
             rotate_left
             ·
              intro w'
              go_simp
              with_reducible rfl
             rotate_left
             ·
              simp only [Act.put, List.setIfInBounds_toArray, List.set_cons_zero, List.set_cons_succ, i64_w, i32_w]
              rfl
             refine pure_ (i := 4) (N := some 31) (v := ?_) (a' := ?_) #[true, true, true, false, true, false, false, false, false, false, false, false] rfl rfl (any_of HT_.out (by kernel_rfl)) (fun _ _ _ h => h) (Or.inl ⟨by rfl, ?_⟩) ?_ ?_
             rotate_left
             ·
              intro w'
              go_simp
              with_reducible rfl
             rotate_left
             ·
              simp only [Act.put, List.setIfInBounds_toArray, List.set_cons_zero, List.set_cons_succ, i64_w, i32_w]
              rfl
             refine pure_ (i := 5) (N := some 32) (v := ?_) (a' := ?_) #[true, true, true, false, true, true, false, false, false, false, false, false] rfl rfl (any_of HT_.out (by kernel_rfl)) (fun _ _ _ h => h) (Or.inl ⟨by rfl, ?_⟩) ?_ ?_
             rotate_left
             ·
              intro w'
              go_simp
              with_reducible rfl
             rotate_left
             ·
              simp only [Act.put, List.setIfInBounds_toArray, List.set_cons_zero, List.set_cons_succ, i64_w, i32_w]
              rfl
             refine pure_ (i := 6) (N := some 33) (v := ?_) (a' := ?_) #[true, true, true, false, true, true, true, false, false, false, false, false] rfl rfl (any_of HT_.out (by kernel_rfl)) (fun _ _ _ h => h) (Or.inl ⟨by rfl, ?_⟩) ?_ ?_
             rotate_left
             ·
              intro w'
              go_simp
              with_reducible rfl
             rotate_left
             ·
              simp only [Act.put, List.setIfInBounds_toArray, List.set_cons_zero, List.set_cons_succ, i64_w, i32_w]
              rfl
             refine pure_ (i := 7) (N := some 34) (v := ?_) (a' := ?_) #[true, true, true, false, true, true, true, true, false, false, false, false] rfl rfl (any_of HT_.out (by kernel_rfl)) (fun _ _ _ h => h) (Or.inl ⟨by rfl, ?_⟩) ?_ ?_
             rotate_left
             ·
              intro w'
              go_simp
              with_reducible rfl
             rotate_left
             ·
              simp only [Act.put, List.setIfInBounds_toArray, List.set_cons_zero, List.set_cons_succ, i64_w, i32_w]
              rfl
             refine take_ (i := 3) (N := some 30) (v := ?_) (a' := ?_) #[true, true, true, true, true, true, true, true, false, false, false, false] rfl rfl (xdF HT_.out HW_.out (by kernel_rfl)) (fun _ _ _ h => h) (Or.inl ⟨by rfl, ?_⟩) hHeld ?_ ?_
             rotate_left
             ·
              rintro w' ⟨s0, s1⟩
              go_simp
              with_reducible rfl
             rotate_left
             ·
              simp only [Act.put, List.setIfInBounds_toArray, List.set_cons_zero, List.set_cons_succ, i64_w, i32_w]
              rfl
             refine take_ (i := 8) (N := some 35) (v := ?_) (a' := ?_) #[true, true, true, true, true, true, true, true, true, false, false, false] rfl rfl (xdF HT_.out HW_.out (by kernel_rfl)) (fun _ _ _ h => h) (Or.inl ⟨by rfl, ?_⟩) hHeld ?_ ?_
             rotate_left
             ·
              rintro w' ⟨s0, s1⟩
              go_simp
              with_reducible rfl
             rotate_left
             ·
              simp only [Act.put, List.setIfInBounds_toArray, List.set_cons_zero, List.set_cons_succ, i64_w, i32_w]
              rfl
             refine pure_ (i := 9) (N := some 36) (v := ?_) (a' := ?_) #[true, true, true, true, true, true, true, true, true, true, false, false] rfl rfl (any_of HT_.out (by kernel_rfl)) (fun _ _ _ h => h) (Or.inl ⟨by rfl, ?_⟩) ?_ ?_
             rotate_left
             ·
              intro w'
              go_simp
              with_reducible rfl
             rotate_left
             ·
              simp only [Act.put, List.setIfInBounds_toArray, List.set_cons_zero, List.set_cons_succ, i64_w, i32_w]
              rfl
             refine one_ (i := 10) (N := some 8) #[true, true, true, true, true, true, true, true, true, true, true, false] rfl rfl (one_of HT_.out (by kernel_rfl)) (by decide) (fun K hK => ?_)
             refine xgJ ?hg (N := 8) ?hd (cs := #[.int .i64 0, .int .i64 0, .int .i64 0, .int .i64 0, .int .i64 0]) (t := 145) ?hr ?_; (case hd => rfl); (case hg => rfl); (case hr => first | (go_simp; done) | (go_simp; rfl))
             intro gb955 hg w83 hbox hb
             have HS0_ := (hb.cell (World.block_lt_of_cell? _ _ (hHeld.1))).trans (hHeld.1)
             have HS1_ := (hb.cell (World.block_lt_of_cell? _ _ (hHeld.2))).trans (hHeld.2)
             replace HO_4 := Aside0.mk (Kd.xbL (bR HO_4) hb)
             replace HO_6 := Aside0.mk (Kd.xbL (Kd.xgK (bR HO_6) gb955 (Nat.le_of_eq hg.symm)) hb)
             have BK955 := Aside0.mk (hbox)
             have GW955 := bG hg
             have GE955 := bG hg
             replace HB := bS hb
             have NB945_955 := Aside0.mk ((by rw [hg]; exact Nat.ne_of_lt (blk_lt (g := gb945) (o := .cells #[.int .i64 a0_0, .int .i64 a0_1, .int .i64 a0_2, .int .i64 a0_3, .int .i64 a0_4, .int .i64 a0_5, .int .i64 a0_6, .int .i64 a0_7, .int .i64 a0_8, .slice A0_9 l0_9.length c0_9] 117 (0, 0)) (bk BK945)) : gb945 ≠ gb955))
             have NB955_945 := Aside0.mk ((by rw [hg]; exact Nat.ne_of_gt (blk_lt (g := gb945) (o := .cells #[.int .i64 a0_0, .int .i64 a0_1, .int .i64 a0_2, .int .i64 a0_3, .int .i64 a0_4, .int .i64 a0_5, .int .i64 a0_6, .int .i64 a0_7, .int .i64 a0_8, .slice A0_9 l0_9.length c0_9] 117 (0, 0)) (bk BK945)) : gb955 ≠ gb945))
             replace BK945 := bK BK945 hb
             clear hb hbox hg
             refine hK.out _ _ ⟨HS0_, HS1_⟩ (fun hHeld => ?_)
             clear hK K
             refine norm_ (a' := ?_) ?_ ?_
             rotate_left
             ·
              show Act.put _ (some 8) _ = _
              simp only [Act.put, List.setIfInBounds_toArray, List.set_cons_zero, List.set_cons_succ, i64_w, i32_w]
              rfl
             refine one_ (i := 11) (N := none) #[true, true, true, true, true, true, true, true, true, true, true, true] rfl rfl (one_of HT_.out (by kernel_rfl)) (by decide) (fun K hK => ?_)
             have hs84 : w83.cell? ⟨gb955, 0, none⟩ = some (.int .i64 0) := (xaA BK955.out 0).trans rfl
             have hfs84 := xaB BK955.out 0;have hns84_0 := NB945_955.out;have hms84_0 := NB955_945.out
             have hs85 : w83.cell? ⟨gb955, 1, none⟩ = some (.int .i64 0) := (xaA BK955.out 1).trans rfl
             have hfs85 := xaB BK955.out 1;have hns85_0 := NB945_955.out;have hms85_0 := NB955_945.out
             have hs86 : w83.cell? ⟨gb955, 2, none⟩ = some (.int .i64 0) := (xaA BK955.out 2).trans rfl
             have hfs86 := xaB BK955.out 2;have hns86_0 := NB945_955.out;have hms86_0 := NB955_945.out
             have hs87 : w83.cell? ⟨gb955, 3, none⟩ = some (.int .i64 0) := (xaA BK955.out 3).trans rfl
             have hfs87 := xaB BK955.out 3;have hns87_0 := NB945_955.out;have hms87_0 := NB955_945.out
             have hs88 : w83.cell? ⟨gb955, 4, none⟩ = some (.int .i64 0) := (xaA BK955.out 4).trans rfl
             have hfs88 := xaB BK955.out 4;have hns88_0 := NB945_955.out;have hms88_0 := NB955_945.out
             refine skip_ (w1 := ?_) (by rfl) rfl ?_ ?_
             rotate_left
             ·
              go_simp
              rfl
             refine hK.out _ _ ⟨((cell_far (p := ⟨gb955, _, none⟩) (by first | exact Kd.xaG (Kd.R_ne HO_4.out BK955.out (by decide)) | (rw [add_block]; exact Kd.xaG (Kd.R_ne HO_4.out BK955.out (by decide))) | (show (Addr.add _ _).block ≠ _; rw [add_block]; exact Kd.xaG (Kd.R_ne HO_4.out BK955.out (by decide))) | (dsimp only; exact Kd.xaG (Kd.R_ne HO_4.out BK955.out (by decide)))) _).trans (((cell_far (p := ⟨gb955, _, none⟩) (by first | exact Kd.xaG (Kd.R_ne HO_4.out BK955.out (by decide)) | (rw [add_block]; exact Kd.xaG (Kd.R_ne HO_4.out BK955.out (by decide))) | (show (Addr.add _ _).block ≠ _; rw [add_block]; exact Kd.xaG (Kd.R_ne HO_4.out BK955.out (by decide))) | (dsimp only; exact Kd.xaG (Kd.R_ne HO_4.out BK955.out (by decide)))) _).trans (((cell_far (p := ⟨gb955, _, none⟩) (by first | exact Kd.xaG (Kd.R_ne HO_4.out BK955.out (by decide)) | (rw [add_block]; exact Kd.xaG (Kd.R_ne HO_4.out BK955.out (by decide))) | (show (Addr.add _ _).block ≠ _; rw [add_block]; exact Kd.xaG (Kd.R_ne HO_4.out BK955.out (by decide))) | (dsimp only; exact Kd.xaG (Kd.R_ne HO_4.out BK955.out (by decide)))) _).trans (((cell_far (p := ⟨gb955, _, none⟩) (by first | exact Kd.xaG (Kd.R_ne HO_4.out BK955.out (by decide)) | (rw [add_block]; exact Kd.xaG (Kd.R_ne HO_4.out BK955.out (by decide))) | (show (Addr.add _ _).block ≠ _; rw [add_block]; exact Kd.xaG (Kd.R_ne HO_4.out BK955.out (by decide))) | (dsimp only; exact Kd.xaG (Kd.R_ne HO_4.out BK955.out (by decide)))) _).trans (((cell_far (p := ⟨gb955, _, none⟩) (by first | exact Kd.xaG (Kd.R_ne HO_4.out BK955.out (by decide)) | (rw [add_block]; exact Kd.xaG (Kd.R_ne HO_4.out BK955.out (by decide))) | (show (Addr.add _ _).block ≠ _; rw [add_block]; exact Kd.xaG (Kd.R_ne HO_4.out BK955.out (by decide))) | (dsimp only; exact Kd.xaG (Kd.R_ne HO_4.out BK955.out (by decide)))) _).trans (hHeld.1)))))))))), ((cell_far (p := ⟨gb955, _, none⟩) (by first | exact Kd.xaG (Kd.R_ne HO_4.out BK955.out (by decide)) | (rw [add_block]; exact Kd.xaG (Kd.R_ne HO_4.out BK955.out (by decide))) | (show (Addr.add _ _).block ≠ _; rw [add_block]; exact Kd.xaG (Kd.R_ne HO_4.out BK955.out (by decide))) | (dsimp only; exact Kd.xaG (Kd.R_ne HO_4.out BK955.out (by decide)))) _).trans (((cell_far (p := ⟨gb955, _, none⟩) (by first | exact Kd.xaG (Kd.R_ne HO_4.out BK955.out (by decide)) | (rw [add_block]; exact Kd.xaG (Kd.R_ne HO_4.out BK955.out (by decide))) | (show (Addr.add _ _).block ≠ _; rw [add_block]; exact Kd.xaG (Kd.R_ne HO_4.out BK955.out (by decide))) | (dsimp only; exact Kd.xaG (Kd.R_ne HO_4.out BK955.out (by decide)))) _).trans (((cell_far (p := ⟨gb955, _, none⟩) (by first | exact Kd.xaG (Kd.R_ne HO_4.out BK955.out (by decide)) | (rw [add_block]; exact Kd.xaG (Kd.R_ne HO_4.out BK955.out (by decide))) | (show (Addr.add _ _).block ≠ _; rw [add_block]; exact Kd.xaG (Kd.R_ne HO_4.out BK955.out (by decide))) | (dsimp only; exact Kd.xaG (Kd.R_ne HO_4.out BK955.out (by decide)))) _).trans (((cell_far (p := ⟨gb955, _, none⟩) (by first | exact Kd.xaG (Kd.R_ne HO_4.out BK955.out (by decide)) | (rw [add_block]; exact Kd.xaG (Kd.R_ne HO_4.out BK955.out (by decide))) | (show (Addr.add _ _).block ≠ _; rw [add_block]; exact Kd.xaG (Kd.R_ne HO_4.out BK955.out (by decide))) | (dsimp only; exact Kd.xaG (Kd.R_ne HO_4.out BK955.out (by decide)))) _).trans (((cell_far (p := ⟨gb955, _, none⟩) (by first | exact Kd.xaG (Kd.R_ne HO_4.out BK955.out (by decide)) | (rw [add_block]; exact Kd.xaG (Kd.R_ne HO_4.out BK955.out (by decide))) | (show (Addr.add _ _).block ≠ _; rw [add_block]; exact Kd.xaG (Kd.R_ne HO_4.out BK955.out (by decide))) | (dsimp only; exact Kd.xaG (Kd.R_ne HO_4.out BK955.out (by decide)))) _).trans (hHeld.2))))))))))⟩ (fun hHeld => ?_)
             clear hK K
             refine done_ (xgX HT_.out (by kernel_rfl)) ?_
             have hnb89 := NB945_955.out;have hnc89 := NB955_945.out
             obtain ⟨_,_,_,_,_,_,_,_,_,_,_,_,_,_,_,_,_,_,_,_⟩ := blk10 BK945
             obtain ⟨_,_,_,_,_,_,_,_,_,_⟩ := blk5 BK955
             try go_wp2_with (first | ((with_reducible refine gG 163 ?_); refine goA (some 44) Tryz.func163 #[.agg #[.int .i64 a0_8, .slice A0_9 l0_9.length c0_9], .int .i64 (rd t946 x24_1), .int .i64 a0_6] ?_; (with_reducible refine (xcA.calls a0_8 _ _ l0_9 (rd t946 x24_1) a0_6 t956 t957 _ ?side1 ?side2 A19.out).mono ?_); (case side1 => exact Kd.xbP HR0_9.out bB); (case side2 => exact HC0_9.out); rintro e w92 ⟨rfl, hb⟩; refine ⟨_, rfl, ?_⟩; replace HO_4 := Aside0.mk (Kd.xbL (by (with_reducible repeat (first | apply Kd.xbJ | apply Kd.xbK | apply Kd.R_drew)); exact (Kd.R_mono (Kd.R_far (p := ⟨gb955, 4, none⟩) (Kd.R_far (p := ⟨gb955, 3, none⟩) (Kd.R_far (p := ⟨gb955, 2, none⟩) (Kd.R_far (p := ⟨gb955, 1, none⟩) (Kd.R_far (p := ⟨gb955, 0, none⟩) (Kd.xdZ HO_4.out BK955.out (by decide)) (fun _ hk => hk.2) (.int .i64 (rd t946 x24_1))) (fun _ hk => hk.2) (.int .i64 (rd t946 (ji16)))) (fun _ hk => hk.2) (.int .i64 0)) (fun _ hk => hk.2) (.int .i64 0)) (fun _ hk => hk.2) (.int .i64 0)) (fun _ h_ => h_.1))) hb); replace HO_6 := Aside0.mk (Kd.xbL (by (with_reducible repeat (first | apply Kd.xbJ | apply Kd.xbK | apply Kd.R_drew)); exact (Kd.R_mono (Kd.R_far (p := ⟨gb955, 4, none⟩) (Kd.R_far (p := ⟨gb955, 3, none⟩) (Kd.R_far (p := ⟨gb955, 2, none⟩) (Kd.R_far (p := ⟨gb955, 1, none⟩) (Kd.R_far (p := ⟨gb955, 0, none⟩) (Kd.R_mono HO_6.out (fun k_ hk => (⟨hk, hk.2⟩ : _ ∧ k_ ≠ gb955))) (fun _ hk => hk.2) (.int .i64 (rd t946 x24_1))) (fun _ hk => hk.2) (.int .i64 (rd t946 (ji16)))) (fun _ hk => hk.2) (.int .i64 0)) (fun _ hk => hk.2) (.int .i64 0)) (fun _ hk => hk.2) (.int .i64 0)) (fun _ h_ => h_.1))) hb); replace BK945 := Aside0.mk (xaK (g := gb945) (o := .cells #[.int .i64 a0_0, .int .i64 a0_1, .int .i64 a0_2, .int .i64 a0_3, .int .i64 a0_4, .int .i64 a0_5, .int .i64 a0_6, .int .i64 a0_7, .int .i64 a0_8, .slice A0_9 l0_9.length c0_9] 117 (0, 0)) (by (with_reducible repeat (first | refine xaH ?_ _ | refine xaF ?_ | refine xaE ?_ _)); refine xbW ?_ NB945_955.out _; (with_reducible repeat (first | refine xaH ?_ _ | refine xaF ?_ | refine xaE ?_ _)); refine xbW ?_ NB945_955.out _; (with_reducible repeat (first | refine xaH ?_ _ | refine xaF ?_ | refine xaE ?_ _)); refine xbW ?_ NB945_955.out _; (with_reducible repeat (first | refine xaH ?_ _ | refine xaF ?_ | refine xaE ?_ _)); refine xbW ?_ NB945_955.out _; (with_reducible repeat (first | refine xaH ?_ _ | refine xaF ?_ | refine xaE ?_ _)); refine xbW ?_ NB945_955.out _; (with_reducible repeat (first | refine xaH ?_ _ | refine xaF ?_ | refine xaE ?_ _)); exact BK945.out) hb); replace BK955 := Aside0.mk (xaK (g := gb955) (o := .cells #[.int .i64 (rd t946 x24_1), .int .i64 (rd t946 (ji16)), .int .i64 0, .int .i64 0, .int .i64 0] 145 (0, 0)) (by (with_reducible repeat (first | refine xaH ?_ _ | refine xaF ?_ | refine xaE ?_ _)); refine xaS (cs := #[.int .i64 (rd t946 x24_1), .int .i64 (rd t946 (ji16)), .int .i64 0, .int .i64 0, .int .i64 0]) ?_ 4 _ rfl; (with_reducible repeat (first | refine xaH ?_ _ | refine xaF ?_ | refine xaE ?_ _)); refine xaS (cs := #[.int .i64 (rd t946 x24_1), .int .i64 (rd t946 (ji16)), .int .i64 0, .int .i64 0, .int .i64 0]) ?_ 3 _ rfl; (with_reducible repeat (first | refine xaH ?_ _ | refine xaF ?_ | refine xaE ?_ _)); refine xaS (cs := #[.int .i64 (rd t946 x24_1), .int .i64 (rd t946 (ji16)), .int .i64 0, .int .i64 0, .int .i64 0]) ?_ 2 _ rfl; (with_reducible repeat (first | refine xaH ?_ _ | refine xaF ?_ | refine xaE ?_ _)); refine xaS (cs := #[.int .i64 (rd t946 x24_1), .int .i64 0, .int .i64 0, .int .i64 0, .int .i64 0]) ?_ 1 _ rfl; (with_reducible repeat (first | refine xaH ?_ _ | refine xaF ?_ | refine xaE ?_ _)); refine xaS (cs := #[.int .i64 0, .int .i64 0, .int .i64 0, .int .i64 0, .int .i64 0]) ?_ 0 _ rfl; (with_reducible repeat (first | refine xaH ?_ _ | refine xaF ?_ | refine xaE ?_ _)); exact BK955.out) hb); replace HB := bS hb; (try clear hb); (try clear hb2); (try clear hk); (try clear hi); obtain ⟨_,_,_,_,_,_,_,_,_,_⟩ := blk5 BK955; obtain ⟨_,_,_,_,_,_,_,_,_,_,_,_,_,_,_,_,_,_,_,_⟩ := blk10 BK945) | ((with_reducible refine xdX (f := 163) rfl ?_); refine goesL_ (some 58) rfl rfl Tryz.func163 (by kernel_rfl) rfl #[.agg #[.int .i64 a0_8, .slice A0_9 l0_9.length c0_9], .int .i64 (rd t946 (ji16)), .int .i64 a0_6] rfl (by (try simp only [List.map_toArray, List.map_cons, List.map_nil]); first | done | (simp only [hji16]; rfl) | rfl | (simp only [List.length_drop, List.length_take]; rfl)) ?_; (with_reducible refine (xcA.calls a0_8 _ _ l0_9 (rd t946 (ji16)) a0_6 t958 t959 _ ?side1 ?side2 A21.out).mono ?_); (case side1 => exact Kd.xbP HR0_9.out bB); (case side2 => exact HC0_9.out); rintro e w95 ⟨rfl, hb⟩; refine ⟨_, rfl, ?_⟩; replace HO_4 := Aside0.mk (Kd.xbL (by (with_reducible repeat (first | apply Kd.xbJ | apply Kd.xbK | apply Kd.R_drew)); exact (Kd.R_mono (Kd.R_far (p := ⟨gb955, 2, none⟩) (Kd.xdZ HO_4.out BK955.out (by decide)) (fun _ hk => hk.2) (.int .i64 t956)) (fun _ h_ => h_.1))) hb); replace HO_6 := Aside0.mk (Kd.xbL (by (with_reducible repeat (first | apply Kd.xbJ | apply Kd.xbK | apply Kd.R_drew)); exact (Kd.R_mono (Kd.R_far (p := ⟨gb955, 2, none⟩) (Kd.R_mono HO_6.out (fun k_ hk => (⟨hk, hk.2⟩ : _ ∧ k_ ≠ gb955))) (fun _ hk => hk.2) (.int .i64 t956)) (fun _ h_ => h_.1))) hb); replace BK945 := Aside0.mk (xaK (g := gb945) (o := .cells #[.int .i64 a0_0, .int .i64 a0_1, .int .i64 a0_2, .int .i64 a0_3, .int .i64 a0_4, .int .i64 a0_5, .int .i64 a0_6, .int .i64 a0_7, .int .i64 a0_8, .slice A0_9 l0_9.length c0_9] 117 (0, 0)) (by (with_reducible repeat (first | refine xaH ?_ _ | refine xaF ?_ | refine xaE ?_ _)); refine xbW ?_ NB945_955.out _; (with_reducible repeat (first | refine xaH ?_ _ | refine xaF ?_ | refine xaE ?_ _)); exact BK945.out) hb); replace BK955 := Aside0.mk (xaK (g := gb955) (o := .cells #[.int .i64 (rd t946 x24_1), .int .i64 (rd t946 (ji16)), .int .i64 t956, .int .i64 0, .int .i64 0] 145 (0, 0)) (by (with_reducible repeat (first | refine xaH ?_ _ | refine xaF ?_ | refine xaE ?_ _)); refine xaS (cs := #[.int .i64 (rd t946 x24_1), .int .i64 (rd t946 (ji16)), .int .i64 0, .int .i64 0, .int .i64 0]) ?_ 2 _ rfl; (with_reducible repeat (first | refine xaH ?_ _ | refine xaF ?_ | refine xaE ?_ _)); exact BK955.out) hb); replace HB := bS hb; (try clear hb); (try clear hb2); (try clear hk); (try clear hi); obtain ⟨_,_,_,_,_,_,_,_,_,_⟩ := blk5 BK955))
             go_ret2
             exact ⟨_, by first | rfl | (simp [xbD, xbC] <;> rfl) | (simp only [← hji4, ← hji16]; first | rfl | (simp [xbD, xbC] <;> rfl)) | (simp [*, xbD, xbC] <;> rfl), by first | exact Kd.R_nil _ _ _ _ _ | exact Kd.N_nil _ _ _ _ _ | exact Kd.V_nil _ _ _ _ _ | exact Kd.Q_nil _ _ _ _ _ | exact Kd.S_nil _ _ _ _ _, bB⟩
           ·
            rw [if_neg c20] at H
            have c20b0 : (t957 == 0) = false := beq_eq_false_iff_ne.mpr c20
            have c20b1 : (t957 != 0) = true := bne_iff_ne.mpr c20
            simp only [Option.some.injEq, Prod.mk.injEq] at H
            obtain ⟨rfl, rfl⟩ := H
            try go_wp2
            replace HO_4 := Aside0.mk (Kd.R_drew HO_4.out)
            replace HO_6 := Aside0.mk (Kd.R_drew HO_6.out)
            replace BK945 := Aside0.mk (xaF BK945.out)
            replace HB := Aside0.mk (xaM HB.out)
            have p953 : 0 ≤ (x24_1 : Int) := of_decide_eq_true tA
            have q953 : x24_1 < (t946.length : Int) := of_decide_eq_true tA
            obtain ⟨ad953, e953, hx953_0⟩ := Kd.at_int (Kd.R_reads' HO_4.out).2.2 x24_1 p953 q953
            cases e953
            replace p953 := eq_true p953;replace q953 := eq_true q953
            have p954 : 0 ≤ ((ji16) : Int) := of_decide_eq_true tA
            have q954 : (ji16) < (t946.length : Int) := of_decide_eq_true tA
            obtain ⟨ad954, e954, hx954_0⟩ := Kd.at_int (Kd.R_reads' HO_4.out).2.2 (ji16) p954 q954
            obtain rfl : ad953 = ad954 := (by injection e954)
            replace p954 := eq_true p954;replace q954 := eq_true q954
            refine start_ (n := 12) (S := fun w' => w'.cell? (ad953.add (x24_1).toNat) = some (.int .i64 (rd t946 x24_1)) ∧ w'.cell? (ad953.add ((ji16)).toNat) = some (.int .i64 (rd t946 (ji16)))) (ds := []) #[false, false, false, false, false, false, false, false, false, false, false, false] (by kernel_rfl) rfl rfl ⟨hx953_0, hx954_0⟩ (fun hHeld => ?_); refine xeP xaN.tab8 xaN.bits8 (fun HT_ HW_ => ?_)
            generalize wr.drew = w97 at HO_4 HO_6 BK945 HB hx953_0 hx954_0 hHeld ⊢
            refine pure_ (i := 0) (N := some 27) (v := ?_) (a' := ?_) #[true, false, false, false, false, false, false, false, false, false, false, false] rfl rfl (any_of HT_.out (by kernel_rfl)) (fun _ _ _ h => h) (Or.inl ⟨by rfl, ?_⟩) ?_ ?_
            rotate_left
            ·
             intro w'
             go_simp
             with_reducible rfl
            rotate_left
            ·
             simp only [Act.put, List.setIfInBounds_toArray, List.set_cons_zero, List.set_cons_succ, i64_w, i32_w]
             rfl
            refine pure_ (i := 1) (N := some 28) (v := ?_) (a' := ?_) #[true, true, false, false, false, false, false, false, false, false, false, false] rfl rfl (any_of HT_.out (by kernel_rfl)) (fun _ _ _ h => h) (Or.inl ⟨by rfl, ?_⟩) ?_ ?_
            rotate_left
            ·
             intro w'
             go_simp
             with_reducible rfl
            rotate_left
            ·
             simp only [Act.put, List.setIfInBounds_toArray, List.set_cons_zero, List.set_cons_succ, i64_w, i32_w]
             rfl
            refine pure_ (i := 2) (N := some 29) (v := ?_) (a' := ?_) #[true, true, true, false, false, false, false, false, false, false, false, false] rfl rfl (any_of HT_.out (by kernel_rfl)) (fun _ _ _ h => h) (Or.inl ⟨by rfl, ?_⟩) ?_ ?_
            rotate_left
            ·
             intro w'
             go_simp
             with_reducible rfl
            rotate_left
            ·
             simp only [Act.put, List.setIfInBounds_toArray, List.set_cons_zero, List.set_cons_succ, i64_w, i32_w]
             rfl
            refine pure_ (i := 4) (N := some 31) (v := ?_) (a' := ?_) #[true, true, true, false, true, false, false, false, false, false, false, false] rfl rfl (any_of HT_.out (by kernel_rfl)) (fun _ _ _ h => h) (Or.inl ⟨by rfl, ?_⟩) ?_ ?_
            rotate_left
            ·
             intro w'
             go_simp
             with_reducible rfl
            rotate_left
            ·
             simp only [Act.put, List.setIfInBounds_toArray, List.set_cons_zero, List.set_cons_succ, i64_w, i32_w]
             rfl
            refine pure_ (i := 5) (N := some 32) (v := ?_) (a' := ?_) #[true, true, true, false, true, true, false, false, false, false, false, false] rfl rfl (any_of HT_.out (by kernel_rfl)) (fun _ _ _ h => h) (Or.inl ⟨by rfl, ?_⟩) ?_ ?_
            rotate_left
            ·
             intro w'
             go_simp
             with_reducible rfl
            rotate_left
            ·
             simp only [Act.put, List.setIfInBounds_toArray, List.set_cons_zero, List.set_cons_succ, i64_w, i32_w]
             rfl
            refine pure_ (i := 6) (N := some 33) (v := ?_) (a' := ?_) #[true, true, true, false, true, true, true, false, false, false, false, false] rfl rfl (any_of HT_.out (by kernel_rfl)) (fun _ _ _ h => h) (Or.inl ⟨by rfl, ?_⟩) ?_ ?_
            rotate_left
            ·
             intro w'
             go_simp
             with_reducible rfl
            rotate_left
            ·
             simp only [Act.put, List.setIfInBounds_toArray, List.set_cons_zero, List.set_cons_succ, i64_w, i32_w]
             rfl
            refine pure_ (i := 7) (N := some 34) (v := ?_) (a' := ?_) #[true, true, true, false, true, true, true, true, false, false, false, false] rfl rfl (any_of HT_.out (by kernel_rfl)) (fun _ _ _ h => h) (Or.inl ⟨by rfl, ?_⟩) ?_ ?_
            rotate_left
            ·
             intro w'
             go_simp
             with_reducible rfl
            rotate_left
            ·
             simp only [Act.put, List.setIfInBounds_toArray, List.set_cons_zero, List.set_cons_succ, i64_w, i32_w]
             rfl
            refine take_ (i := 3) (N := some 30) (v := ?_) (a' := ?_) #[true, true, true, true, true, true, true, true, false, false, false, false] rfl rfl (xdF HT_.out HW_.out (by kernel_rfl)) (fun _ _ _ h => h) (Or.inl ⟨by rfl, ?_⟩) hHeld ?_ ?_
            rotate_left
            ·
             rintro w' ⟨s0, s1⟩
             go_simp
             with_reducible rfl
            rotate_left
            ·
             simp only [Act.put, List.setIfInBounds_toArray, List.set_cons_zero, List.set_cons_succ, i64_w, i32_w]
             rfl
            refine take_ (i := 8) (N := some 35) (v := ?_) (a' := ?_) #[true, true, true, true, true, true, true, true, true, false, false, false] rfl rfl (xdF HT_.out HW_.out (by kernel_rfl)) (fun _ _ _ h => h) (Or.inl ⟨by rfl, ?_⟩) hHeld ?_ ?_
            rotate_left
            ·
             rintro w' ⟨s0, s1⟩
             go_simp
             with_reducible rfl
            rotate_left
            ·
             simp only [Act.put, List.setIfInBounds_toArray, List.set_cons_zero, List.set_cons_succ, i64_w, i32_w]
             rfl
            refine pure_ (i := 9) (N := some 36) (v := ?_) (a' := ?_) #[true, true, true, true, true, true, true, true, true, true, false, false] rfl rfl (any_of HT_.out (by kernel_rfl)) (fun _ _ _ h => h) (Or.inl ⟨by rfl, ?_⟩) ?_ ?_
            rotate_left
            ·
             intro w'
             go_simp
             with_reducible rfl
            rotate_left
            ·
             simp only [Act.put, List.setIfInBounds_toArray, List.set_cons_zero, List.set_cons_succ, i64_w, i32_w]
             rfl
            refine one_ (i := 10) (N := some 8) #[true, true, true, true, true, true, true, true, true, true, true, false] rfl rfl (one_of HT_.out (by kernel_rfl)) (by decide) (fun K hK => ?_)
            refine xgJ ?hg (N := 8) ?hd (cs := #[.int .i64 0, .int .i64 0, .int .i64 0, .int .i64 0, .int .i64 0]) (t := 145) ?hr ?_; (case hd => rfl); (case hg => rfl); (case hr => first | (go_simp; done) | (go_simp; rfl))
            intro gb955 hg w98 hbox hb
            have HS0_ := (hb.cell (World.block_lt_of_cell? _ _ (hHeld.1))).trans (hHeld.1)
            have HS1_ := (hb.cell (World.block_lt_of_cell? _ _ (hHeld.2))).trans (hHeld.2)
            replace HO_4 := Aside0.mk (Kd.xbL (bR HO_4) hb)
            replace HO_6 := Aside0.mk (Kd.xbL (Kd.xgK (bR HO_6) gb955 (Nat.le_of_eq hg.symm)) hb)
            have BK955 := Aside0.mk (hbox)
            have GW955 := bG hg
            have GE955 := bG hg
            replace HB := bS hb
            have NB945_955 := Aside0.mk ((by rw [hg]; exact Nat.ne_of_lt (blk_lt (g := gb945) (o := .cells #[.int .i64 a0_0, .int .i64 a0_1, .int .i64 a0_2, .int .i64 a0_3, .int .i64 a0_4, .int .i64 a0_5, .int .i64 a0_6, .int .i64 a0_7, .int .i64 a0_8, .slice A0_9 l0_9.length c0_9] 117 (0, 0)) (bk BK945)) : gb945 ≠ gb955))
            have NB955_945 := Aside0.mk ((by rw [hg]; exact Nat.ne_of_gt (blk_lt (g := gb945) (o := .cells #[.int .i64 a0_0, .int .i64 a0_1, .int .i64 a0_2, .int .i64 a0_3, .int .i64 a0_4, .int .i64 a0_5, .int .i64 a0_6, .int .i64 a0_7, .int .i64 a0_8, .slice A0_9 l0_9.length c0_9] 117 (0, 0)) (bk BK945)) : gb955 ≠ gb945))
            replace BK945 := bK BK945 hb
            clear hb hbox hg
            refine hK.out _ _ ⟨HS0_, HS1_⟩ (fun hHeld => ?_)
            clear hK K
            refine norm_ (a' := ?_) ?_ ?_
            rotate_left
            ·
             show Act.put _ (some 8) _ = _
             simp only [Act.put, List.setIfInBounds_toArray, List.set_cons_zero, List.set_cons_succ, i64_w, i32_w]
             rfl
            refine one_ (i := 11) (N := none) #[true, true, true, true, true, true, true, true, true, true, true, true] rfl rfl (one_of HT_.out (by kernel_rfl)) (by decide) (fun K hK => ?_)
            have hs99 : w98.cell? ⟨gb955, 0, none⟩ = some (.int .i64 0) := (xaA BK955.out 0).trans rfl
            have hfs99 := xaB BK955.out 0;have hns99_0 := NB945_955.out;have hms99_0 := NB955_945.out
            have hs100 : w98.cell? ⟨gb955, 1, none⟩ = some (.int .i64 0) := (xaA BK955.out 1).trans rfl
            have hfs100 := xaB BK955.out 1;have hns100_0 := NB945_955.out;have hms100_0 := NB955_945.out
            have hs101 : w98.cell? ⟨gb955, 2, none⟩ = some (.int .i64 0) := (xaA BK955.out 2).trans rfl
            have hfs101 := xaB BK955.out 2;have hns101_0 := NB945_955.out;have hms101_0 := NB955_945.out
            have hs102 : w98.cell? ⟨gb955, 3, none⟩ = some (.int .i64 0) := (xaA BK955.out 3).trans rfl
            have hfs102 := xaB BK955.out 3;have hns102_0 := NB945_955.out;have hms102_0 := NB955_945.out
            have hs103 : w98.cell? ⟨gb955, 4, none⟩ = some (.int .i64 0) := (xaA BK955.out 4).trans rfl
            have hfs103 := xaB BK955.out 4;have hns103_0 := NB945_955.out;have hms103_0 := NB955_945.out
            refine skip_ (w1 := ?_) (by rfl) rfl ?_ ?_
            rotate_left
            ·
             go_simp
             rfl
            refine hK.out _ _ ⟨((cell_far (p := ⟨gb955, _, none⟩) (by first | exact Kd.xaG (Kd.R_ne HO_4.out BK955.out (by decide)) | (rw [add_block]; exact Kd.xaG (Kd.R_ne HO_4.out BK955.out (by decide))) | (show (Addr.add _ _).block ≠ _; rw [add_block]; exact Kd.xaG (Kd.R_ne HO_4.out BK955.out (by decide))) | (dsimp only; exact Kd.xaG (Kd.R_ne HO_4.out BK955.out (by decide)))) _).trans (((cell_far (p := ⟨gb955, _, none⟩) (by first | exact Kd.xaG (Kd.R_ne HO_4.out BK955.out (by decide)) | (rw [add_block]; exact Kd.xaG (Kd.R_ne HO_4.out BK955.out (by decide))) | (show (Addr.add _ _).block ≠ _; rw [add_block]; exact Kd.xaG (Kd.R_ne HO_4.out BK955.out (by decide))) | (dsimp only; exact Kd.xaG (Kd.R_ne HO_4.out BK955.out (by decide)))) _).trans (((cell_far (p := ⟨gb955, _, none⟩) (by first | exact Kd.xaG (Kd.R_ne HO_4.out BK955.out (by decide)) | (rw [add_block]; exact Kd.xaG (Kd.R_ne HO_4.out BK955.out (by decide))) | (show (Addr.add _ _).block ≠ _; rw [add_block]; exact Kd.xaG (Kd.R_ne HO_4.out BK955.out (by decide))) | (dsimp only; exact Kd.xaG (Kd.R_ne HO_4.out BK955.out (by decide)))) _).trans (((cell_far (p := ⟨gb955, _, none⟩) (by first | exact Kd.xaG (Kd.R_ne HO_4.out BK955.out (by decide)) | (rw [add_block]; exact Kd.xaG (Kd.R_ne HO_4.out BK955.out (by decide))) | (show (Addr.add _ _).block ≠ _; rw [add_block]; exact Kd.xaG (Kd.R_ne HO_4.out BK955.out (by decide))) | (dsimp only; exact Kd.xaG (Kd.R_ne HO_4.out BK955.out (by decide)))) _).trans (((cell_far (p := ⟨gb955, _, none⟩) (by first | exact Kd.xaG (Kd.R_ne HO_4.out BK955.out (by decide)) | (rw [add_block]; exact Kd.xaG (Kd.R_ne HO_4.out BK955.out (by decide))) | (show (Addr.add _ _).block ≠ _; rw [add_block]; exact Kd.xaG (Kd.R_ne HO_4.out BK955.out (by decide))) | (dsimp only; exact Kd.xaG (Kd.R_ne HO_4.out BK955.out (by decide)))) _).trans (hHeld.1)))))))))), ((cell_far (p := ⟨gb955, _, none⟩) (by first | exact Kd.xaG (Kd.R_ne HO_4.out BK955.out (by decide)) | (rw [add_block]; exact Kd.xaG (Kd.R_ne HO_4.out BK955.out (by decide))) | (show (Addr.add _ _).block ≠ _; rw [add_block]; exact Kd.xaG (Kd.R_ne HO_4.out BK955.out (by decide))) | (dsimp only; exact Kd.xaG (Kd.R_ne HO_4.out BK955.out (by decide)))) _).trans (((cell_far (p := ⟨gb955, _, none⟩) (by first | exact Kd.xaG (Kd.R_ne HO_4.out BK955.out (by decide)) | (rw [add_block]; exact Kd.xaG (Kd.R_ne HO_4.out BK955.out (by decide))) | (show (Addr.add _ _).block ≠ _; rw [add_block]; exact Kd.xaG (Kd.R_ne HO_4.out BK955.out (by decide))) | (dsimp only; exact Kd.xaG (Kd.R_ne HO_4.out BK955.out (by decide)))) _).trans (((cell_far (p := ⟨gb955, _, none⟩) (by first | exact Kd.xaG (Kd.R_ne HO_4.out BK955.out (by decide)) | (rw [add_block]; exact Kd.xaG (Kd.R_ne HO_4.out BK955.out (by decide))) | (show (Addr.add _ _).block ≠ _; rw [add_block]; exact Kd.xaG (Kd.R_ne HO_4.out BK955.out (by decide))) | (dsimp only; exact Kd.xaG (Kd.R_ne HO_4.out BK955.out (by decide)))) _).trans (((cell_far (p := ⟨gb955, _, none⟩) (by first | exact Kd.xaG (Kd.R_ne HO_4.out BK955.out (by decide)) | (rw [add_block]; exact Kd.xaG (Kd.R_ne HO_4.out BK955.out (by decide))) | (show (Addr.add _ _).block ≠ _; rw [add_block]; exact Kd.xaG (Kd.R_ne HO_4.out BK955.out (by decide))) | (dsimp only; exact Kd.xaG (Kd.R_ne HO_4.out BK955.out (by decide)))) _).trans (((cell_far (p := ⟨gb955, _, none⟩) (by first | exact Kd.xaG (Kd.R_ne HO_4.out BK955.out (by decide)) | (rw [add_block]; exact Kd.xaG (Kd.R_ne HO_4.out BK955.out (by decide))) | (show (Addr.add _ _).block ≠ _; rw [add_block]; exact Kd.xaG (Kd.R_ne HO_4.out BK955.out (by decide))) | (dsimp only; exact Kd.xaG (Kd.R_ne HO_4.out BK955.out (by decide)))) _).trans (hHeld.2))))))))))⟩ (fun hHeld => ?_)
            clear hK K
            refine done_ (xgX HT_.out (by kernel_rfl)) ?_
            have hnb104 := NB945_955.out;have hnc104 := NB955_945.out
            obtain ⟨_,_,_,_,_,_,_,_,_,_,_,_,_,_,_,_,_,_,_,_⟩ := blk10 BK945
            obtain ⟨_,_,_,_,_,_,_,_,_,_⟩ := blk5 BK955
            try go_wp2_with (first | ((with_reducible refine gG 163 ?_); refine goA (some 44) Tryz.func163 #[.agg #[.int .i64 a0_8, .slice A0_9 l0_9.length c0_9], .int .i64 (rd t946 x24_1), .int .i64 a0_6] ?_; (with_reducible refine (xcA.calls a0_8 _ _ l0_9 (rd t946 x24_1) a0_6 t956 t957 _ ?side1 ?side2 A19.out).mono ?_); (case side1 => exact Kd.xbP HR0_9.out bB); (case side2 => exact HC0_9.out); rintro e w107 ⟨rfl, hb⟩; refine ⟨_, rfl, ?_⟩; replace HO_4 := Aside0.mk (Kd.xbL (by (with_reducible repeat (first | apply Kd.xbJ | apply Kd.xbK | apply Kd.R_drew)); exact (Kd.R_mono (Kd.R_far (p := ⟨gb955, 4, none⟩) (Kd.R_far (p := ⟨gb955, 3, none⟩) (Kd.R_far (p := ⟨gb955, 2, none⟩) (Kd.R_far (p := ⟨gb955, 1, none⟩) (Kd.R_far (p := ⟨gb955, 0, none⟩) (Kd.xdZ HO_4.out BK955.out (by decide)) (fun _ hk => hk.2) (.int .i64 (rd t946 x24_1))) (fun _ hk => hk.2) (.int .i64 (rd t946 (ji16)))) (fun _ hk => hk.2) (.int .i64 0)) (fun _ hk => hk.2) (.int .i64 0)) (fun _ hk => hk.2) (.int .i64 0)) (fun _ h_ => h_.1))) hb); replace HO_6 := Aside0.mk (Kd.xbL (by (with_reducible repeat (first | apply Kd.xbJ | apply Kd.xbK | apply Kd.R_drew)); exact (Kd.R_mono (Kd.R_far (p := ⟨gb955, 4, none⟩) (Kd.R_far (p := ⟨gb955, 3, none⟩) (Kd.R_far (p := ⟨gb955, 2, none⟩) (Kd.R_far (p := ⟨gb955, 1, none⟩) (Kd.R_far (p := ⟨gb955, 0, none⟩) (Kd.R_mono HO_6.out (fun k_ hk => (⟨hk, hk.2⟩ : _ ∧ k_ ≠ gb955))) (fun _ hk => hk.2) (.int .i64 (rd t946 x24_1))) (fun _ hk => hk.2) (.int .i64 (rd t946 (ji16)))) (fun _ hk => hk.2) (.int .i64 0)) (fun _ hk => hk.2) (.int .i64 0)) (fun _ hk => hk.2) (.int .i64 0)) (fun _ h_ => h_.1))) hb); replace BK945 := Aside0.mk (xaK (g := gb945) (o := .cells #[.int .i64 a0_0, .int .i64 a0_1, .int .i64 a0_2, .int .i64 a0_3, .int .i64 a0_4, .int .i64 a0_5, .int .i64 a0_6, .int .i64 a0_7, .int .i64 a0_8, .slice A0_9 l0_9.length c0_9] 117 (0, 0)) (by (with_reducible repeat (first | refine xaH ?_ _ | refine xaF ?_ | refine xaE ?_ _)); refine xbW ?_ NB945_955.out _; (with_reducible repeat (first | refine xaH ?_ _ | refine xaF ?_ | refine xaE ?_ _)); refine xbW ?_ NB945_955.out _; (with_reducible repeat (first | refine xaH ?_ _ | refine xaF ?_ | refine xaE ?_ _)); refine xbW ?_ NB945_955.out _; (with_reducible repeat (first | refine xaH ?_ _ | refine xaF ?_ | refine xaE ?_ _)); refine xbW ?_ NB945_955.out _; (with_reducible repeat (first | refine xaH ?_ _ | refine xaF ?_ | refine xaE ?_ _)); refine xbW ?_ NB945_955.out _; (with_reducible repeat (first | refine xaH ?_ _ | refine xaF ?_ | refine xaE ?_ _)); exact BK945.out) hb); replace BK955 := Aside0.mk (xaK (g := gb955) (o := .cells #[.int .i64 (rd t946 x24_1), .int .i64 (rd t946 (ji16)), .int .i64 0, .int .i64 0, .int .i64 0] 145 (0, 0)) (by (with_reducible repeat (first | refine xaH ?_ _ | refine xaF ?_ | refine xaE ?_ _)); refine xaS (cs := #[.int .i64 (rd t946 x24_1), .int .i64 (rd t946 (ji16)), .int .i64 0, .int .i64 0, .int .i64 0]) ?_ 4 _ rfl; (with_reducible repeat (first | refine xaH ?_ _ | refine xaF ?_ | refine xaE ?_ _)); refine xaS (cs := #[.int .i64 (rd t946 x24_1), .int .i64 (rd t946 (ji16)), .int .i64 0, .int .i64 0, .int .i64 0]) ?_ 3 _ rfl; (with_reducible repeat (first | refine xaH ?_ _ | refine xaF ?_ | refine xaE ?_ _)); refine xaS (cs := #[.int .i64 (rd t946 x24_1), .int .i64 (rd t946 (ji16)), .int .i64 0, .int .i64 0, .int .i64 0]) ?_ 2 _ rfl; (with_reducible repeat (first | refine xaH ?_ _ | refine xaF ?_ | refine xaE ?_ _)); refine xaS (cs := #[.int .i64 (rd t946 x24_1), .int .i64 0, .int .i64 0, .int .i64 0, .int .i64 0]) ?_ 1 _ rfl; (with_reducible repeat (first | refine xaH ?_ _ | refine xaF ?_ | refine xaE ?_ _)); refine xaS (cs := #[.int .i64 0, .int .i64 0, .int .i64 0, .int .i64 0, .int .i64 0]) ?_ 0 _ rfl; (with_reducible repeat (first | refine xaH ?_ _ | refine xaF ?_ | refine xaE ?_ _)); exact BK955.out) hb); replace HB := bS hb; (try clear hb); (try clear hb2); (try clear hk); (try clear hi); obtain ⟨_,_,_,_,_,_,_,_,_,_⟩ := blk5 BK955))
            go_ret2
            exact ⟨_, by first | rfl | (simp [xbD, xbC] <;> rfl) | (simp only [← hji4, ← hji16]; first | rfl | (simp [xbD, xbC] <;> rfl)) | (simp [*, xbD, xbC] <;> rfl), by first | exact Kd.R_nil _ _ _ _ _ | exact Kd.N_nil _ _ _ _ _ | exact Kd.V_nil _ _ _ _ _ | exact Kd.Q_nil _ _ _ _ _ | exact Kd.S_nil _ _ _ _ _, bB⟩
          ·
           rw [if_neg c18] at H
           exact absurd H (by simp)
         ·
          rw [if_neg c17] at H
          exact absurd H (by simp)
        ·
         rw [if_neg c15] at H
         exact absurd H (by simp)
       ·
        rw [if_neg c14] at H
        exact absurd H (by simp)
      ·
       rw [if_neg c13] at H
       have c13b0 : decide (x24_1 < ji4) = false := decide_eq_false c13
       clear c13
       simp only [Option.some.injEq, Prod.mk.injEq] at H
       obtain ⟨rfl, rfl⟩ := H
       go_wp2
       go_ret2
       exact ⟨_, by first | rfl | (simp [xbD, xbC] <;> rfl) | (simp only [← hji4]; first | rfl | (simp [xbD, xbC] <;> rfl)) | (simp [*, xbD, xbC] <;> rfl), (bR HO_6), bB⟩
   ·
    rw [if_neg c6] at H
    exact absurd H (by simp)
  ·
   rw [if_neg c5] at H
   exact absurd H (by simp)
 ·
  rw [if_neg c3] at H
  have c3b0 : (t949 == 0) = false := beq_eq_false_iff_ne.mpr c3
  have c3b1 : (t949 != 0) = true := bne_iff_ne.mpr c3
  simp only [Option.some.injEq, Prod.mk.injEq] at H
  obtain ⟨rfl, rfl⟩ := H
  go_enter Tryz.func142, Tryz.ntmps142
  go_wp2_with (first | ((with_reducible refine xaU (N := 1) rfl ?_); refine xaT ?hg (N := 1) ?hd (cs := #[.int .i64 a0_0, .int .i64 a0_1, .int .i64 a0_2, .int .i64 a0_3, .int .i64 a0_4, .int .i64 a0_5, .int .i64 a0_6, .int .i64 a0_7, .int .i64 a0_8, .slice A0_9 l0_9.length c0_9]) (t := 117) ?hr ?_; (case hd => rfl); (case hg => rfl); (case hr => first | (go_simp; done) | (go_simp; rfl)); intro gb945 hg w109 hbox hb; have BK945 := Aside0.mk (hbox); have GW945 := bG hg; have GE945 := bG hg; replace HB := bS hb; clear hb hbox hg; obtain ⟨_,_,_,_,_,_,_,_,_,_,_,_,_,_,_,_,_,_,_,_⟩ := blk10 BK945) | ((with_reducible refine gG 162 ?_); refine goA (some 11) Tryz.func162 #[.agg #[.int .i64 a0_0, .int .i64 a0_1, .int .i64 a0_2, .int .i64 a0_3, .int .i64 a0_4, .int .i64 a0_5, .int .i64 a0_6, .int .i64 a0_7, .int .i64 a0_8, .slice A0_9 l0_9.length c0_9]] ?_; (with_reducible refine (xaD.calls k a0_0 a0_1 a0_2 a0_3 a0_4 a0_5 a0_6 a0_7 a0_8 _ _ l0_9 t946 t949 _ ?side1 ?side2 A2.out).mono ?_); (case side1 => exact sC HR0_9); (case side2 => exact HC0_9.out); rintro e w111 ⟨v947, rfl, ho0, hb⟩; refine ⟨_, rfl, ?_⟩; have HO948 := Aside0.mk (Kd.xfP ho0 (xbG bB)); replace BK945 := bK BK945 hb; replace HB := bS hb; (try clear hb); (try clear hb2); (try clear hk); (try clear hi); (try clear ho0)))
  go_ret2
  exact ⟨_, eW, by first | exact Kd.R_nil _ _ _ _ _ | exact Kd.N_nil _ _ _ _ _ | exact Kd.V_nil _ _ _ _ _ | exact Kd.Q_nil _ _ _ _ _ | exact Kd.S_nil _ _ _ _ _, bB⟩
end Go.Proofs.YtkabcgmegljebaaGreatDoor.Q
