/- Contracts and facts of functions of the program (calendar, dates and their documents), joined in one text by a program of this session. No condition but what each theorem states. -/
import Derived.Test.YtoncignjcgjhhaaCGA
import Derived.Test.YtoncignjcgjhhaaCGM
import Derived.Test.YtoncignjcgjhhaaCGN
set_option linter.unusedVariables false
set_option linter.unusedSimpArgs false
namespace Go.Proofs.Ytoncignjcgjhhaa.Q
open Go.RowKit Go.Proofs.YtoncignjcgjhhaaW.PrintWords Go.Proofs.YtoncignjcgjhhaaW.PrintLast Go.Proofs.YtoncignjcgjhhaaW.PrintMore
attribute [local go_sem] xcC xcB xcR xcQ xbX xbW xcF xcE   -- for this text's walks alone
mutual
def xaS.l0 : Nat → List Int → List Int → List Int → List Int → Int → Option (List Int × List Int)
  | 0, _, _, _, _, _ => none
  | k + 1, x0, x1, x6, x7, x8 => if x8 ≥ 0 then ((xbA.f k x6 1).bind fun t370 => (if 0 ≤ (wrap64 (Int.tdiv x8 32)) then (if (wrap64 (Int.tdiv x8 32)) < (x0.length : Int) then (if 0 ≤ (Int.tmod x8 32) then (if (Int.tmod (shr .u64 (rd x0 (wrap64 (Int.tdiv x8 32))) (Int.tmod x8 32)) 2) = 1 then ((xbH.f k t370 (([1] : List Int))).bind fun t377 => (xaS.j1 k x0 x1 t377 x7 x8)) else (xaS.j1 k x0 x1 t370 x7 x8)) else (none)) else (none)) else (none))) else ((xbQ.f k x7).bind fun t367 => (some (t367, x6)))
def xaS.j1 : Nat → List Int → List Int → List Int → List Int → Int → Option (List Int × List Int)
  | 0, _, _, _, _, _ => none
  | k + 1, x0, x1, x6, x7, x8 => (xbS.f k x6 x1).bind fun t380 => (if t380 ≥ 0 then ((xbR.f k x6 x1).bind fun t381 => (if 0 ≤ (wrap64 (Int.tdiv x8 32)) then (if (wrap64 (Int.tdiv x8 32)) < (x7.length : Int) then (if 0 ≤ (Int.tmod x8 32) then (xaS.l0 k x0 x1 t381 (x7.set ((wrap64 (Int.tdiv x8 32)) : Int).toNat (IntKind.u64.wrap ((rd x7 (wrap64 (Int.tdiv x8 32))) + (shl .u64 1 (Int.tmod x8 32))))) (wrap64 (x8 - 1))) else (none)) else (none)) else (none))) else (xaS.l0 k x0 x1 x6 x7 (wrap64 (x8 - 1))))
end
def xaS.f (k : Nat) (l0 : List Int) (l1 : List Int) : Option (List Int × List Int) := if 0 ≤ (l0.length : Int) then (if ((l0.length : Int) : Int).toNat ≤ 35184372088832 then ((xbC.f k l0).bind fun t366 => (xaS.l0 k l0 l1 ([] : List Int) (List.replicate ((l0.length : Int) : Int).toNat 0) (wrap64 (t366 - 1)))) else (none)) else (none)
def xaS.T11 : Bool × List (List Nat × List Nat) := (true, [([], []), ([], []), ([1], [1]), ([], []), ([], []), ([4], [4]), ([3, 5], [3, 5]), ([6], [6]), ([], []), ([8], [8]), ([9], [9]), ([7, 10], [7, 10]), ([0, 2, 0, 1, 2, 3, 4, 5, 6, 7, 8, 9, 10, 11], [0, 2]), ([12, 11, 0, 1, 2, 3, 4, 5, 6, 7, 8, 9, 10, 11], [11, 12])])
def xaS.B11 : List Nat := [0, 0, 2, 0, 0, 16, 56, 120, 0, 256, 768, 2040, 4095, 8191]
theorem xaS.tab11 : rtab .any (opsOf Try.f101 11) = xaS.T11 := by kernel_rfl
theorem xaS.bits11 : xfP xaS.T11.2 xaS.B11 = true := by kernel_rfl
set_option maxHeartbeats 8000000 in
set_option maxRecDepth 100000 in
theorem xaS.calls (k : Nat) (A0 : Option Addr) (c0 : Nat) (l0 : List Int) (A1 : Option Addr) (c1 : Nat) (l1 : List Int) (r1 : List Int) (r2 : List Int) (w : World) (hr0 : Kd.C (Kd.int .u64) w A0 l0.length l0) (hc0 : l0.length ≤ c0) (hr1 : Kd.C (Kd.int .u64) w A1 l1.length l1) (hc1 : l1.length ≤ c1) (h : xaS.f k l0 l1 = some (r1, r2)) :
  Calls Try.prog 101 #[.slice A0 l0.length c0, .slice A1 l1.length c1] w fun e w' => ∃ v0_ v1_ : Value, e = .returned (.tuple #[v0_, v1_]) ∧ Kd.R (Kd.int .u64) 38 w' w.heap.size (fun k_ => some k_ ≠ (v1_ : Value).ownBlock) v0_ r1 ∧ Kd.R (Kd.int .u64) 38 w' w.heap.size (fun k_ => some k_ ≠ (v0_ : Value).ownBlock) v1_ r2 ∧ Below w.heap.size w w' := by
 have HR0 := Aside0.mk hr0;have HC0 := Aside0.mk hc0;clear hr0 hc0;have HR1 := Aside0.mk hr1;have HC1 := Aside0.mk hc1;clear hr1 hc1
 have HB := Aside0.mk (Below.refl w.heap.size w)
 have H : (if 0 ≤ (l0.length : Int) then (if ((l0.length : Int) : Int).toNat ≤ 35184372088832 then ((xbC.f k l0).bind fun t366 => (xaS.l0 k l0 l1 ([] : List Int) (List.replicate ((l0.length : Int) : Int).toNat 0) (wrap64 (t366 - 1)))) else (none)) else (none)) = some (r1, r2) := h
 clear h
 by_cases c3 : 0 ≤ (l0.length : Int)
 ·
  rw [if_pos c3] at H
  have c3b0 := eq_true c3
  have c3b1 : decide (0 ≤ (l0.length : Int)) = true := decide_eq_true c3
  clear c3
  by_cases c4 : ((l0.length : Int) : Int).toNat ≤ 35184372088832
  ·
   rw [if_pos c4] at H
   have c4b0 := eq_true c4
   have c4b1 : decide (((l0.length : Int) : Int).toNat ≤ 35184372088832) = true := decide_eq_true c4
   clear c4
   obtain ⟨y363, hy363⟩ : ∃ y_ : List Int, y_ = (List.replicate ((l0.length : Int) : Int).toNat 0) := ⟨_, rfl⟩
   replace H : ((xbC.f k l0).bind fun t366 => (xaS.l0 k l0 l1 ([] : List Int) y363 (wrap64 (t366 - 1)))) = some (r1, r2) := by first | (rw [hy363]; with_reducible exact H) | (have H2_ := (Option.bind_some _ _).symm.trans H; rw [hy363]; with_reducible exact H2_) | (have H2_ := (Option.bind_some _ _).symm.trans H; with_reducible exact H2_) | with_reducible exact H | (rw [hy363]; exact H) | exact H
   have Ny363 := Aside0.mk hy363;clear hy363;replace H := Option.bind_eq_some_iff.mp H
   obtain ⟨t366, A50, H⟩ := H
   replace H : (xaS.l0 k l0 l1 ([] : List Int) y363 (wrap64 (t366 - 1))) = some (r1, r2) := H
   have A5 := Aside0.mk A50;clear A50;have H' := Aside0.mk H;clear H
   go_enter Try.func101, Try.ntmps101
   go_wp2_with (first | ((with_reducible refine xbM (N := 11) rfl ?_); refine Kd.R_make (Kd.int .u64) _ 38 rfl (N := 11) rfl 94 _ _ rfl (l0.length : Int) rfl rfl Try.underlying94 (.int .u64 0) 8 info38 rfl (by decide) (by omega) 0 (ok := fun _ => True) (okp := fun _ => True) rfl (fun _ hk => hk) trivial (of_decide_eq_true (by first | (with_reducible assumption) | assumption)) (Nat.le_trans (Nat.mul_le_mul_right _ (of_decide_eq_true (by first | (with_reducible assumption) | assumption) : (l0.length : Int).toNat ≤ 35184372088832)) (by omega)) (Below.refl _ _) (Nat.le_refl _) ?_; intro v364 w6 ho7 hb hg_ hnew_; clear hg_ hnew_; (first | rw [← Ny363.out] at ho7 | (simp only [Int.reduceToNat] at ho7; rw [← Ny363.out] at ho7)); have n0_ := Aside0.mk (Kd.xdR ho7 (xaR (by repeat (first | (with_reducible first | exact HB.out | apply xaB | apply xaA | apply xaC) | exact HB.out)))); have n1_ := Aside0.mk (xaP (by repeat (first | (with_reducible first | exact HB.out | apply xaB | apply xaA | apply xaC) | exact HB.out)) hb); clear HB; have HO365 := n0_; have HB := n1_; clear n0_ n1_; clear hb ho7) | ((with_reducible refine xaQ (f := 100) rfl ?_); refine goesL_ (some 13) rfl rfl Try.func100 (by kernel_rfl) rfl #[.slice A0 l0.length c0] rfl (by (try simp only [List.map_toArray, List.map_cons, List.map_nil]); first | done | rfl | (simp only [List.length_drop, List.length_take]; rfl)) ?_; (with_reducible refine (xbC.calls k _ _ l0 t366 _ ?side1 ?side2 A5.out).mono ?_); (case side1 => repeat (first | exact (Kd.xbT HR0.out HB.out) | (with_reducible refine Kd.xbF ?_ _) | (with_reducible refine Kd.xbE ?_ _) | (with_reducible refine Kd.C_drew ?_))); (case side2 => exact HC0.out); rintro e w' ⟨rfl, ⟨nd, rfl⟩⟩; refine ⟨_, rfl, ?_⟩))
   go_loopg [6, 8] k (fun kq v6 v8 w' => ∃ (x6_1 : List Int) (x7_1 : List Int) (x8_1 : Int), v8 = .int .i64 x8_1 ∧ Aside0 (xaS.l0 kq l0 l1 x6_1 x7_1 x8_1 = some (r1, r2)) ∧ Aside0 (kq ≤ k) ∧ Aside0 (Kd.R (Kd.int .u64) 38 w' w.heap.size (fun k_ => some k_ ≠ (v364 : Value).ownBlock) v6 x6_1) ∧ Aside0 (Kd.R (Kd.int .u64) 38 w' w.heap.size (fun k_ => some k_ ≠ (v6 : Value).ownBlock) v364 x7_1) ∧ Aside0 (Below w.heap.size w w'))
   case atStart => exact ⟨(([] : List Int)), (y363), (wrap64 (t366 - 1)), (by first | rfl | (simp; done) | (simp [*]; done)), H', ⟨Nat.le_refl _⟩, ⟨by first | exact Kd.R_nil _ _ _ _ _ | exact Kd.N_nil _ _ _ _ _ | exact Kd.V_nil _ _ _ _ _ | exact Kd.Q_nil _ _ _ _ _ | exact Kd.S_nil _ _ _ _ _⟩, ⟨by (with_reducible repeat (first | apply Kd.xbZ | apply Kd.xbY | apply Kd.R_drew)); exact Kd.R_mono HO365.out (fun _ hk => (by simp [Value.ownBlock]))⟩, ⟨by repeat (first | (with_reducible first | exact HB.out | apply xaB | apply xaA | apply xaC) | exact HB.out)⟩⟩
   case round =>
    clear H'
    obtain ⟨x6_1, x7_1, x8_1, rfl, HA, HK1, HO_6, HO_7, HB⟩ := hrel
    cases gk with
    | zero => exact absurd HA.out (by simp [xaS.l0])
    | succ k1 =>
     have H := HA.out;clear HA
     simp only [xaS.l0] at H
     by_cases c8 : x8_1 ≥ 0
     ·
      rw [if_pos c8] at H
      have c8b0 : decide (0 ≤ x8_1) = true := decide_eq_true c8
      clear c8;replace H := Option.bind_eq_some_iff.mp H
      obtain ⟨t370, A90, H⟩ := H
      replace H : (if 0 ≤ (wrap64 (Int.tdiv x8_1 32)) then (if (wrap64 (Int.tdiv x8_1 32)) < (l0.length : Int) then (if 0 ≤ (Int.tmod x8_1 32) then (if (Int.tmod (shr .u64 (rd l0 (wrap64 (Int.tdiv x8_1 32))) (Int.tmod x8_1 32)) 2) = 1 then ((xbH.f k1 t370 (([1] : List Int))).bind fun t377 => (xaS.j1 k1 l0 l1 t377 x7_1 x8_1)) else (xaS.j1 k1 l0 l1 t370 x7_1 x8_1)) else (none)) else (none)) else (none)) = some (r1, r2) := H
      have A9 := Aside0.mk A90;clear A90
      obtain ⟨ji10, hji10⟩ : ∃ j_ : Int, (wrap64 (Int.tdiv x8_1 32)) = j_ := ⟨_, rfl⟩
      replace H : (if 0 ≤ (ji10) then (if (ji10) < (l0.length : Int) then (if 0 ≤ (Int.tmod x8_1 32) then (if (Int.tmod (shr .u64 (rd l0 (ji10)) (Int.tmod x8_1 32)) 2) = 1 then ((xbH.f k1 t370 (([1] : List Int))).bind fun t377 => (xaS.j1 k1 l0 l1 t377 x7_1 x8_1)) else (xaS.j1 k1 l0 l1 t370 x7_1 x8_1)) else (none)) else (none)) else (none)) = some (r1, r2) := by first | (rw [hji10] at H; exact H) | (simp only [hji10] at H ⊢; exact H)
      (try rw [hji10] at A9)
      have hji10w : (IntKind.i64.wrap (Int.tdiv x8_1 32)) = ji10 := (i64_w _).trans hji10
      by_cases c11 : 0 ≤ (ji10)
      ·
       rw [if_pos c11] at H
       have c11b0 : decide (0 ≤ (ji10)) = true := decide_eq_true c11
       clear c11
       by_cases c12 : (ji10) < (l0.length : Int)
       ·
        rw [if_pos c12] at H
        have c12b0 : decide ((ji10) < (l0.length : Int)) = true := decide_eq_true c12
        clear c12
        obtain ⟨ji13, hji13⟩ : ∃ j_ : Int, (Int.tmod x8_1 32) = j_ := ⟨_, rfl⟩
        replace H : (if 0 ≤ (ji13) then (if (Int.tmod (shr .u64 (rd l0 (ji10)) (ji13)) 2) = 1 then ((xbH.f k1 t370 (([1] : List Int))).bind fun t377 => (xaS.j1 k1 l0 l1 t377 x7_1 x8_1)) else (xaS.j1 k1 l0 l1 t370 x7_1 x8_1)) else (none)) = some (r1, r2) := by first | (rw [hji13] at H; exact H) | (simp only [hji13] at H ⊢; exact H)
        (try rw [hji13] at A9)
        by_cases c14 : 0 ≤ (ji13)
        ·
         rw [if_pos c14] at H
         have c14b0 := eq_true c14
         have c14b1 : decide (0 ≤ (ji13)) = true := decide_eq_true c14
         clear c14
         obtain ⟨ji15, hji15⟩ : ∃ j_ : Int, (shr .u64 (rd l0 (ji10)) (ji13)) = j_ := ⟨_, rfl⟩
         replace H : (if (Int.tmod (ji15) 2) = 1 then ((xbH.f k1 t370 (([1] : List Int))).bind fun t377 => (xaS.j1 k1 l0 l1 t377 x7_1 x8_1)) else (xaS.j1 k1 l0 l1 t370 x7_1 x8_1)) = some (r1, r2) := by first | (rw [hji15] at H; exact H) | (simp only [hji15] at H ⊢; exact H)
         (try rw [hji15] at A9)
         have hji15_ : ((rd l0 (ji10)) / 2 ^ min (ji13).toNat 64) = ji15 := hji15
         have hji15z : (ji13) ≤ 64 → ((rd l0 (ji10)) / 2 ^ (ji13).toNat) = ji15 := xhR hji15
         have HC16 := Aside0.mk H;clear H
         obtain ⟨Ao17, co17, eo17⟩ := Kd.xcY HO_6.out
         subst eo17
         go_upto_if 30 with (first | ((with_reducible refine xaQ (f := 102) rfl ?_); refine goesL_ (some 20) rfl rfl Try.func102 (by kernel_rfl) rfl #[.slice Ao17 x6_1.length co17, .int .i64 1] rfl (by (try simp only [List.map_toArray, List.map_cons, List.map_nil]); first | done | rfl | (simp only [List.length_drop, List.length_take]; rfl)) ?_; (with_reducible refine (xbA.calls k1 _ _ x6_1 1 t370 _ ?side1 ?side2 A9.out).mono ?_); (case side1 => repeat (first | exact (Kd.R_reads' HO_6.out).2.2 | (with_reducible refine Kd.xbF ?_ _) | (with_reducible refine Kd.xbE ?_ _) | (with_reducible refine Kd.C_drew ?_))); (case side2 => exact (Kd.R_reads' HO_6.out).2.1); rintro e w18 ⟨v371, rfl, ho0, hb⟩; refine ⟨_, rfl, ?_⟩; have n0_ := Aside0.mk (Kd.R_elder' (by (with_reducible repeat (first | apply Kd.xbZ | apply Kd.xbY | apply Kd.R_drew)); exact HO_6.out) (Kd.R_base ho0) hb); have n1_ := Aside0.mk (Kd.R_elder' (by (with_reducible repeat (first | apply Kd.xbZ | apply Kd.xbY | apply Kd.R_drew)); exact HO_7.out) (Kd.R_base ho0) hb); have n2_ := Aside0.mk (Kd.xdR (Kd.R_new' (Kd.R_new' ho0 (Kd.R_lt (by (with_reducible repeat (first | apply Kd.xbZ | apply Kd.xbY | apply Kd.R_drew)); exact HO_6.out))) (Kd.R_lt (by (with_reducible repeat (first | apply Kd.xbZ | apply Kd.xbY | apply Kd.R_drew)); exact HO_7.out))) (xaR (by repeat (first | (with_reducible first | exact HB.out | apply xaB | apply xaA | apply xaC) | exact HB.out)))); have n3_ := Aside0.mk (xaP (by repeat (first | (with_reducible first | exact HB.out | apply xaB | apply xaA | apply xaC) | exact HB.out)) hb); clear HO_6; clear HO_7; clear HB; have HO_6 := n0_; have HO_7 := n1_; have HO372 := n2_; have HB := n3_; clear n0_ n1_ n2_ n3_; (try clear hb); (try clear hb2); (try clear hk); (try clear hi); (try clear ho0); have p373 : 0 ≤ ((ji10) : Int) := of_decide_eq_true (by first | (with_reducible assumption) | assumption); have q373 : (ji10) < (l0.length : Int) := of_decide_eq_true (by first | (with_reducible assumption) | assumption); obtain ⟨ad373, e373, hx373_0⟩ := Kd.at_int HR0.out (ji10) p373 q373; cases e373; replace hx373_0 := (HB.out.cell (World.block_lt_of_cell? w _ hx373_0)).trans hx373_0; replace p373 := eq_true p373; replace q373 := eq_true q373))
         (try simp only [Act.put, List.setIfInBounds_toArray, List.set_cons_zero, List.set_cons_succ])
         go_cut [6] (fun v6 wc => ∃ (kq : Nat) (x6_15 : List Int), Aside0 (xaS.j1 kq l0 l1 x6_15 x7_1 x8_1 = some (r1, r2)) ∧ Aside0 (kq ≤ k1) ∧ Aside0 (Kd.R (Kd.int .u64) 38 wc w.heap.size (fun k_ => some k_ ≠ (v364 : Value).ownBlock) v6 x6_15) ∧ Aside0 (Kd.R (Kd.int .u64) 38 wc w.heap.size (fun k_ => some k_ ≠ (v6 : Value).ownBlock) v364 x7_1) ∧ Aside0 (Below w.heap.size w wc))
         case first =>
          have H := HC16.out;clear HC16
          by_cases c19 : (Int.tmod (ji15) 2) = 1
          ·
           rw [if_pos c19] at H
           have c19b0 : ((Int.tmod (ji15) 2) == 1) = true := beq_iff_eq.mpr c19
           have c19b1 : ((Int.tmod (ji15) 2) != 1) = false := bne_eq_false_iff_eq.mpr c19
           clear c19
           (first | rw [c19b0] | (simp only [i64_w, i32_w]; rw [c19b0]) | skip)
           obtain ⟨y374, hy374⟩ : ∃ y_ : List Int, y_ = (([1] : List Int)) := ⟨_, rfl⟩
           replace H : ((xbH.f k1 t370 y374).bind fun t377 => (xaS.j1 k1 l0 l1 t377 x7_1 x8_1)) = some (r1, r2) := by first | (rw [hy374]; with_reducible exact H) | (have H2_ := (Option.bind_some _ _).symm.trans H; rw [hy374]; with_reducible exact H2_) | (have H2_ := (Option.bind_some _ _).symm.trans H; with_reducible exact H2_) | with_reducible exact H | (rw [hy374]; exact H) | exact H
           have Ny374 := Aside0.mk hy374;clear hy374;replace H := Option.bind_eq_some_iff.mp H
           obtain ⟨t377, A200, H⟩ := H
           replace H : (xaS.j1 k1 l0 l1 t377 x7_1 x8_1) = some (r1, r2) := H
           have A20 := Aside0.mk A200;clear A200;have H' := Aside0.mk H;clear H
           go_wp2_with (first | ((with_reducible refine xbM (N := 32) rfl ?_); refine Kd.R_lit (Kd.int .u64) _ 38 ?hg (N := 32) ?hd (xs := ([1] : List Int)) (inner := [.int .u64 1]) (ok := fun _ => True) (okp := fun _ => True) ?hr ?hp (fun _ hk => hk) trivial (Below.refl _ _) (Nat.le_refl _) (by simp) ?_; (case hd => rfl); (case hg => rfl); (case hr => first | (go_simp; done) | (go_simp; rfl)); (case hp => exact (Reps.one (show Kd.M (Kd.int .u64) _ _ _ 1 [.int .u64 1] from rfl) (Reps.none _ _))); intro v375 w21 ho22 hb hg_ hnew_; clear hg_ hnew_; (first | rw [← Ny374.out] at ho22 | (simp only [Int.reduceToNat] at ho22; rw [← Ny374.out] at ho22)); have n0_ := Aside0.mk (Kd.R_elder' (by (with_reducible repeat (first | apply Kd.xbZ | apply Kd.xbY | apply Kd.R_drew)); exact HO_6.out) (Kd.R_base ho22) hb); have n1_ := Aside0.mk (Kd.R_elder' (by (with_reducible repeat (first | apply Kd.xbZ | apply Kd.xbY | apply Kd.R_drew)); exact HO_7.out) (Kd.R_base ho22) hb); have n2_ := Aside0.mk (Kd.R_elder' (by (with_reducible repeat (first | apply Kd.xbZ | apply Kd.xbY | apply Kd.R_drew)); exact HO372.out) (Kd.R_base ho22) hb); have n3_ := Aside0.mk (Kd.xdR (Kd.R_new' (Kd.R_new' (Kd.R_new' ho22 (Kd.R_lt (by (with_reducible repeat (first | apply Kd.xbZ | apply Kd.xbY | apply Kd.R_drew)); exact HO_6.out))) (Kd.R_lt (by (with_reducible repeat (first | apply Kd.xbZ | apply Kd.xbY | apply Kd.R_drew)); exact HO_7.out))) (Kd.R_lt (by (with_reducible repeat (first | apply Kd.xbZ | apply Kd.xbY | apply Kd.R_drew)); exact HO372.out))) (xaR (by repeat (first | (with_reducible first | exact HB.out | apply xaB | apply xaA | apply xaC) | exact HB.out)))); have n4_ := Aside0.mk (xaP (by repeat (first | (with_reducible first | exact HB.out | apply xaB | apply xaA | apply xaC) | exact HB.out)) hb); clear HO_6; clear HO_7; clear HO372; clear HB; have HO_6 := n0_; have HO_7 := n1_; have HO372 := n2_; have HO376 := n3_; have HB := n4_; clear n0_ n1_ n2_ n3_ n4_; clear hb ho22; obtain ⟨Ao23, co23, eo23⟩ := Kd.xcY HO372.out; subst eo23; obtain ⟨Ao24, co24, eo24⟩ := Kd.xcY HO376.out; subst eo24) | ((with_reducible refine xaQ (f := 125) rfl ?_); refine goesL_ (some 33) rfl rfl Try.func125 (by kernel_rfl) rfl #[.slice Ao23 t370.length co23, .slice Ao24 y374.length co24] rfl (by (try simp only [List.map_toArray, List.map_cons, List.map_nil]); first | done | rfl | (simp only [List.length_drop, List.length_take]; rfl)) ?_; (with_reducible refine (xbH.calls k1 _ _ t370 _ _ y374 t377 _ ?side1 ?side2 ?side3 ?side4 A20.out).mono ?_); (case side1 => repeat (first | exact (Kd.R_reads' HO372.out).2.2 | (with_reducible refine Kd.xbF ?_ _) | (with_reducible refine Kd.xbE ?_ _) | (with_reducible refine Kd.C_drew ?_))); (case side2 => exact (Kd.R_reads' HO372.out).2.1); (case side3 => repeat (first | exact (Kd.R_reads' HO376.out).2.2 | (with_reducible refine Kd.xbF ?_ _) | (with_reducible refine Kd.xbE ?_ _) | (with_reducible refine Kd.C_drew ?_))); (case side4 => exact (Kd.R_reads' HO376.out).2.1); rintro e w25 ⟨v378, rfl, ho0, hb⟩; refine ⟨_, rfl, ?_⟩; have n0_ := Aside0.mk (Kd.R_elder' (by (with_reducible repeat (first | apply Kd.xbZ | apply Kd.xbY | apply Kd.R_drew)); exact HO_6.out) (Kd.R_base ho0) hb); have n1_ := Aside0.mk (Kd.R_elder' (by (with_reducible repeat (first | apply Kd.xbZ | apply Kd.xbY | apply Kd.R_drew)); exact HO_7.out) (Kd.R_base ho0) hb); have n2_ := Aside0.mk (Kd.R_elder' (by (with_reducible repeat (first | apply Kd.xbZ | apply Kd.xbY | apply Kd.R_drew)); exact HO372.out) (Kd.R_base ho0) hb); have n3_ := Aside0.mk (Kd.R_elder' (by (with_reducible repeat (first | apply Kd.xbZ | apply Kd.xbY | apply Kd.R_drew)); exact HO376.out) (Kd.R_base ho0) hb); have n4_ := Aside0.mk (Kd.xdR (Kd.R_new' (Kd.R_new' (Kd.R_new' (Kd.R_new' ho0 (Kd.R_lt (by (with_reducible repeat (first | apply Kd.xbZ | apply Kd.xbY | apply Kd.R_drew)); exact HO_6.out))) (Kd.R_lt (by (with_reducible repeat (first | apply Kd.xbZ | apply Kd.xbY | apply Kd.R_drew)); exact HO_7.out))) (Kd.R_lt (by (with_reducible repeat (first | apply Kd.xbZ | apply Kd.xbY | apply Kd.R_drew)); exact HO372.out))) (Kd.R_lt (by (with_reducible repeat (first | apply Kd.xbZ | apply Kd.xbY | apply Kd.R_drew)); exact HO376.out))) (xaR (by repeat (first | (with_reducible first | exact HB.out | apply xaB | apply xaA | apply xaC) | exact HB.out)))); have n5_ := Aside0.mk (xaP (by repeat (first | (with_reducible first | exact HB.out | apply xaB | apply xaA | apply xaC) | exact HB.out)) hb); clear HO_6; clear HO_7; clear HO372; clear HO376; clear HB; have HO_6 := n0_; have HO_7 := n1_; have HO372 := n2_; have HO376 := n3_; have HO379 := n4_; have HB := n5_; clear n0_ n1_ n2_ n3_ n4_ n5_; (try clear hb); (try clear hb2); (try clear hk); (try clear hi); (try clear ho0)))
           go_meet
           case rel => exact ⟨_, (t377), H', ⟨by have := HK1.out; first | omega | exact Nat.le_refl _⟩, ⟨by (with_reducible repeat (first | apply Kd.xbZ | apply Kd.xbY | apply Kd.R_drew)); exact Kd.R_mono HO379.out (fun _ hk => hk.1.1.2)⟩, ⟨by (with_reducible repeat (first | apply Kd.xbZ | apply Kd.xbY | apply Kd.R_drew)); exact Kd.R_mono HO_7.out (fun _ hk => hk.2)⟩, ⟨by repeat (first | (with_reducible first | exact HB.out | apply xaB | apply xaA | apply xaC) | exact HB.out)⟩⟩
          ·
           rw [if_neg c19] at H
           have c19b0 : ((Int.tmod (ji15) 2) == 1) = false := beq_eq_false_iff_ne.mpr c19
           have c19b1 : ((Int.tmod (ji15) 2) != 1) = true := bne_iff_ne.mpr c19
           (first | rw [c19b0] | (simp only [i64_w, i32_w]; rw [c19b0]) | skip)
           have H' := Aside0.mk H;clear H
           go_wp2
           go_meet
           case rel => exact ⟨_, (t370), H', ⟨by have := HK1.out; first | omega | exact Nat.le_refl _⟩, ⟨by (with_reducible repeat (first | apply Kd.xbZ | apply Kd.xbY | apply Kd.R_drew)); exact Kd.R_mono HO372.out (fun _ hk => hk.2)⟩, ⟨by (with_reducible repeat (first | apply Kd.xbZ | apply Kd.xbY | apply Kd.R_drew)); exact Kd.R_mono HO_7.out (fun _ hk => hk.2)⟩, ⟨by repeat (first | (with_reducible first | exact HB.out | apply xaB | apply xaA | apply xaC) | exact HB.out)⟩⟩
         case rest =>
          clear HC16
          obtain ⟨kq, x6_15, HA, HJ15, HO_6, HO_7, HB⟩ := hcut
          cases kq with
          | zero => exact absurd HA.out (by simp [xaS.j1])
          | succ kj15 =>
           have H := HA.out;clear HA
           simp only [xaS.j1] at H
           replace H := Option.bind_eq_some_iff.mp H
           obtain ⟨t380, A260, H⟩ := H
           replace H : (if t380 ≥ 0 then ((xbR.f kj15 x6_15 l1).bind fun t381 => (if 0 ≤ (wrap64 (Int.tdiv x8_1 32)) then (if (wrap64 (Int.tdiv x8_1 32)) < (x7_1.length : Int) then (if 0 ≤ (Int.tmod x8_1 32) then (xaS.l0 kj15 l0 l1 t381 (x7_1.set ((wrap64 (Int.tdiv x8_1 32)) : Int).toNat (IntKind.u64.wrap ((rd x7_1 (wrap64 (Int.tdiv x8_1 32))) + (shl .u64 1 (Int.tmod x8_1 32))))) (wrap64 (x8_1 - 1))) else (none)) else (none)) else (none))) else (xaS.l0 kj15 l0 l1 x6_15 x7_1 (wrap64 (x8_1 - 1)))) = some (r1, r2) := H
           have A26 := Aside0.mk A260;clear A260
           by_cases c27 : t380 ≥ 0
           ·
            rw [if_pos c27] at H
            have c27b0 : decide (0 ≤ t380) = true := decide_eq_true c27
            clear c27;replace H := Option.bind_eq_some_iff.mp H
            obtain ⟨t381, A280, H⟩ := H
            replace H : (if 0 ≤ (wrap64 (Int.tdiv x8_1 32)) then (if (wrap64 (Int.tdiv x8_1 32)) < (x7_1.length : Int) then (if 0 ≤ (Int.tmod x8_1 32) then (xaS.l0 kj15 l0 l1 t381 (x7_1.set ((wrap64 (Int.tdiv x8_1 32)) : Int).toNat (IntKind.u64.wrap ((rd x7_1 (wrap64 (Int.tdiv x8_1 32))) + (shl .u64 1 (Int.tmod x8_1 32))))) (wrap64 (x8_1 - 1))) else (none)) else (none)) else (none)) = some (r1, r2) := H
            have A28 := Aside0.mk A280;clear A280
            obtain ⟨ji29, hji29⟩ : ∃ j_ : Int, (wrap64 (Int.tdiv x8_1 32)) = j_ := ⟨_, rfl⟩
            replace H : (if 0 ≤ (ji29) then (if (ji29) < (x7_1.length : Int) then (if 0 ≤ (Int.tmod x8_1 32) then (xaS.l0 kj15 l0 l1 t381 (x7_1.set ((ji29) : Int).toNat (IntKind.u64.wrap ((rd x7_1 (ji29)) + (shl .u64 1 (Int.tmod x8_1 32))))) (wrap64 (x8_1 - 1))) else (none)) else (none)) else (none)) = some (r1, r2) := by first | (rw [hji29] at H; exact H) | (simp only [hji29] at H ⊢; exact H)
            (try rw [hji29] at A26)
            (try rw [hji29] at A28)
            have hji29w : (IntKind.i64.wrap (Int.tdiv x8_1 32)) = ji29 := (i64_w _).trans hji29
            have e29_ : ji29 = ji10 := hji29.symm.trans hji10
            subst e29_
            by_cases c30 : 0 ≤ (ji29)
            ·
             rw [if_pos c30] at H
             have c30b0 : decide (0 ≤ (ji29)) = true := decide_eq_true c30
             clear c30
             by_cases c31 : (ji29) < (x7_1.length : Int)
             ·
              rw [if_pos c31] at H
              have c31b0 : decide ((ji29) < (x7_1.length : Int)) = true := decide_eq_true c31
              clear c31
              obtain ⟨ji32, hji32⟩ : ∃ j_ : Int, (Int.tmod x8_1 32) = j_ := ⟨_, rfl⟩
              replace H : (if 0 ≤ (ji32) then (xaS.l0 kj15 l0 l1 t381 (x7_1.set ((ji29) : Int).toNat (IntKind.u64.wrap ((rd x7_1 (ji29)) + (shl .u64 1 (ji32))))) (wrap64 (x8_1 - 1))) else (none)) = some (r1, r2) := by first | (rw [hji32] at H; exact H) | (simp only [hji32] at H ⊢; exact H)
              have e32_ : ji32 = ji13 := hji32.symm.trans hji13
              subst e32_
              (try rw [hji32] at A26)
              (try rw [hji32] at A28)
              by_cases c33 : 0 ≤ (ji32)
              ·
               rw [if_pos c33] at H
               have c33b0 := eq_true c33
               have c33b1 : decide (0 ≤ (ji32)) = true := decide_eq_true c33
               clear c33
               obtain ⟨ji34, hji34⟩ : ∃ j_ : Int, (shl .u64 1 (ji32)) = j_ := ⟨_, rfl⟩
               replace H : (xaS.l0 kj15 l0 l1 t381 (x7_1.set ((ji29) : Int).toNat (IntKind.u64.wrap ((rd x7_1 (ji29)) + (ji34)))) (wrap64 (x8_1 - 1))) = some (r1, r2) := by first | (rw [hji34] at H; exact H) | (simp only [hji34] at H ⊢; exact H)
               (try rw [hji34] at A26)
               (try rw [hji34] at A28)
               have hji34_ : (IntKind.u64.wrap (1 * 2 ^ min (ji32).toNat 64)) = ji34 := hji34
               have hji34z : (ji32) ≤ 64 → (IntKind.u64.wrap (1 * 2 ^ (ji32).toNat)) = ji34 := xfC hji34
               have hji34u : (IntKind.u64.wrap (2 ^ min (ji32).toNat 64)) = ji34 := by have h_ := hji34_; rw [Int.one_mul] at h_; exact h_
               have hji34v : (ji32) ≤ 64 → (IntKind.u64.wrap (2 ^ (ji32).toNat)) = ji34 := fun hle_ => by have h_ := hji34z hle_; rw [Int.one_mul] at h_; exact h_
               obtain ⟨y385, hy385⟩ : ∃ y_ : List Int, y_ = (x7_1.set ((ji29) : Int).toNat (IntKind.u64.wrap ((rd x7_1 (ji29)) + (ji34)))) := ⟨_, rfl⟩
               replace H : (xaS.l0 kj15 l0 l1 t381 y385 (wrap64 (x8_1 - 1))) = some (r1, r2) := by first | (rw [hy385]; with_reducible exact H) | (have H2_ := (Option.bind_some _ _).symm.trans H; rw [hy385]; with_reducible exact H2_) | (have H2_ := (Option.bind_some _ _).symm.trans H; with_reducible exact H2_) | with_reducible exact H | (rw [hy385]; exact H) | exact H
               have Ny385 := Aside0.mk hy385;clear hy385;have H' := Aside0.mk H;clear H
               obtain ⟨Ao36, co36, eo36⟩ := Kd.xcY HO_6.out
               subst eo36
               try go_wp2_with (first | ((with_reducible refine xaQ (f := 126) rfl ?_); refine goesL_ (some 36) rfl rfl Try.func126 (by kernel_rfl) rfl #[.slice Ao36 x6_15.length co36, .slice A1 l1.length c1] rfl (by (try simp only [List.map_toArray, List.map_cons, List.map_nil]); first | done | rfl | (simp only [List.length_drop, List.length_take]; rfl)) ?_; (with_reducible refine (xbS.calls kj15 _ _ x6_15 _ _ l1 t380 _ ?side1 ?side2 ?side3 ?side4 A26.out).mono ?_); (case side1 => repeat (first | exact (Kd.R_reads' HO_6.out).2.2 | (with_reducible refine Kd.xbF ?_ _) | (with_reducible refine Kd.xbE ?_ _) | (with_reducible refine Kd.C_drew ?_))); (case side2 => exact (Kd.R_reads' HO_6.out).2.1); (case side3 => repeat (first | exact (Kd.xbT HR1.out HB.out) | (with_reducible refine Kd.xbF ?_ _) | (with_reducible refine Kd.xbE ?_ _) | (with_reducible refine Kd.C_drew ?_))); (case side4 => exact HC1.out); rintro e w' ⟨rfl, ⟨nd, rfl⟩⟩; refine ⟨_, rfl, ?_⟩; (try (rw [xeZ wc]; generalize hq_ : World.drewN wc _ = wc; have n0_ : Aside0 (Kd.R (Kd.int .u64) 38 wc w.heap.size (fun k_ => some k_ ≠ (v364 : Value).ownBlock) (.slice Ao36 x6_15.length co36) x6_15) := ⟨by rw [← hq_]; exact (by (with_reducible repeat (first | apply Kd.xbZ | apply Kd.xbY | apply Kd.R_drew)); exact HO_6.out)⟩; have n1_ : Aside0 (Kd.R (Kd.int .u64) 38 wc w.heap.size (fun k_ => some k_ ≠ (.slice Ao36 x6_15.length co36 : Value).ownBlock) v364 x7_1) := ⟨by rw [← hq_]; exact (by (with_reducible repeat (first | apply Kd.xbZ | apply Kd.xbY | apply Kd.R_drew)); exact HO_7.out)⟩; have n2_ : Aside0 (Below w.heap.size w wc) := ⟨by rw [← hq_]; exact (by repeat (first | (with_reducible first | exact HB.out | apply xaB | apply xaA | apply xaC) | exact HB.out))⟩; clear HO_6 HO_7 HB hq_; have HO_6 := n0_; have HO_7 := n1_; have HB := n2_; clear n0_ n1_ n2_))) | ((with_reducible refine xaQ (f := 127) rfl ?_); refine goesL_ (some 40) rfl rfl Try.func127 (by kernel_rfl) rfl #[.slice Ao36 x6_15.length co36, .slice A1 l1.length c1] rfl (by (try simp only [List.map_toArray, List.map_cons, List.map_nil]); first | done | rfl | (simp only [List.length_drop, List.length_take]; rfl)) ?_; (with_reducible refine (xbR.calls kj15 _ _ x6_15 _ _ l1 t381 _ ?side1 ?side2 ?side3 ?side4 A28.out).mono ?_); (case side1 => repeat (first | exact (Kd.R_reads' HO_6.out).2.2 | (with_reducible refine Kd.xbF ?_ _) | (with_reducible refine Kd.xbE ?_ _) | (with_reducible refine Kd.C_drew ?_))); (case side2 => exact (Kd.R_reads' HO_6.out).2.1); (case side3 => repeat (first | exact (Kd.xbT HR1.out HB.out) | (with_reducible refine Kd.xbF ?_ _) | (with_reducible refine Kd.xbE ?_ _) | (with_reducible refine Kd.C_drew ?_))); (case side4 => exact HC1.out); rintro e w37 ⟨v382, rfl, ho0, hb⟩; refine ⟨_, rfl, ?_⟩; have n0_ := Aside0.mk (Kd.R_elder' (by (with_reducible repeat (first | apply Kd.xbZ | apply Kd.xbY | apply Kd.R_drew)); exact HO_6.out) (Kd.R_base ho0) hb); have n1_ := Aside0.mk (Kd.R_elder' (by (with_reducible repeat (first | apply Kd.xbZ | apply Kd.xbY | apply Kd.R_drew)); exact HO_7.out) (Kd.R_base ho0) hb); have n2_ := Aside0.mk (Kd.xdR (Kd.R_new' (Kd.R_new' ho0 (Kd.R_lt (by (with_reducible repeat (first | apply Kd.xbZ | apply Kd.xbY | apply Kd.R_drew)); exact HO_6.out))) (Kd.R_lt (by (with_reducible repeat (first | apply Kd.xbZ | apply Kd.xbY | apply Kd.R_drew)); exact HO_7.out))) (xaR (by repeat (first | (with_reducible first | exact HB.out | apply xaB | apply xaA | apply xaC) | exact HB.out)))); have n3_ := Aside0.mk (xaP (by repeat (first | (with_reducible first | exact HB.out | apply xaB | apply xaA | apply xaC) | exact HB.out)) hb); clear HO_6; clear HO_7; clear HB; have HO_6 := n0_; have HO_7 := n1_; have HO383 := n2_; have HB := n3_; clear n0_ n1_ n2_ n3_; (try clear hb); (try clear hb2); (try clear hk); (try clear hi); (try clear ho0)))
               have n0_ := Aside0.mk (Kd.R_drew HO_6.out)
               have n1_ := Aside0.mk (Kd.R_drew HO_7.out)
               have n2_ := Aside0.mk (Kd.R_drew HO383.out)
               have n3_ := Aside0.mk (xaC HB.out)
               clear HO_6 HO_7 HO383 HB;have HO_6 := n0_;have HO_7 := n1_;have HO383 := n2_;have HB := n3_;clear n0_ n1_ n2_ n3_
               obtain ⟨Ao39, co39, eo39⟩ := Kd.xcY HO_7.out
               (first | subst eo39 | (injection eo39 with f1_ f2_ f3_; have f4_ := f1_.symm; have f5_ := f3_.symm; clear f1_ f2_ f3_; subst f4_; subst f5_))
               have p384 : 0 ≤ ((ji29) : Int) := of_decide_eq_true (by first | (with_reducible assumption) | assumption)
               have q384 : (ji29) < (x7_1.length : Int) := of_decide_eq_true (by first | (with_reducible assumption) | assumption)
               obtain ⟨ad384, e384, hx384_0⟩ := Kd.at_int (Kd.R_reads' HO_7.out).2.2 (ji29) p384 q384
               cases e384
               replace p384 := eq_true p384;replace q384 := eq_true q384
               have p35 : 0 ≤ ((ji29) : Int) := of_decide_eq_true (by first | (with_reducible assumption) | assumption)
               have q35 : ((ji29) : Int) < ((x7_1.length : Int) : Int) := of_decide_eq_true (by first | (with_reducible assumption) | assumption)
               obtain ⟨go35, co35, eo35, gb35, gl35, cl35, HG35⟩ := Kd.R_form HO_7.out (by omega)
               (first | cases eo35 | (injection eo35 with ea_ en_ ec_; (first | subst ea_ | (injection ea_ with ea_; subst ea_)); subst ec_; clear en_))
               have GB35 := Aside0.mk gb35;have GG35 := Aside0.mk HG35;clear gb35 gl35 HG35
               (first | simp only [add_plain] at hx384_0 | skip)
               obtain ⟨hx35_0, hf35_0⟩ := Kd.xeQ 0 HO_7.out ((ji29) : Int) p35 q35
               replace p35 := eq_true p35;replace q35 := eq_true q35
               have HP40 := Kd.R_putn HO_7.out ((ji29) : Int) (IntKind.u64.wrap ((rd x7_1 (ji29)) + (ji34)))
               rw [← Ny385.out] at HP40
               have HQ40 := Aside0.mk HP40;clear HP40
               refine start_ (n := 14) (S := fun w' => w'.cell? ⟨go35, ((ji29)).toNat, none⟩ = some (.int .u64 (rd x7_1 (ji29)))) (ds := [13]) #[false, false, false, false, false, false, false, false, false, false, false, false, false, false] (by kernel_rfl) rfl rfl (hx384_0) (fun hHeld => ?_); refine xeR xaS.tab11 xaS.bits11 (fun HT_ HW_ => ?_)
               generalize w37.drew = w38 at HO_6 HO_7 HO383 HB GG35 HQ40 hf35_0 hx35_0 hx384_0 hHeld ⊢
               refine pure_ (i := 0) (N := some 41) (v := ?_) (a' := ?_) #[true, false, false, false, false, false, false, false, false, false, false, false, false, false] rfl rfl (any_of HT_.out (by kernel_rfl)) (fun _ _ _ h => h) (Or.inl ⟨by rfl, ?_⟩) ?_ ?_
               rotate_left
               ·
                intro w'
                go_simp
                with_reducible rfl
               rotate_left
               ·
                simp only [Act.put, List.setIfInBounds_toArray, List.set_cons_zero, List.set_cons_succ, i64_w, i32_w]
                rfl
               refine pure_ (i := 1) (N := some 42) (v := ?_) (a' := ?_) #[true, true, false, false, false, false, false, false, false, false, false, false, false, false] rfl rfl (any_of HT_.out (by kernel_rfl)) (fun _ _ _ h => h) (Or.inl ⟨by rfl, ?_⟩) ?_ ?_
               rotate_left
               ·
                intro w'
                go_simp
                with_reducible rfl
               rotate_left
               ·
                simp only [Act.put, List.setIfInBounds_toArray, List.set_cons_zero, List.set_cons_succ, i64_w, i32_w]
                rfl
               refine pure_ (i := 2) (N := some 43) (v := ?_) (a' := ?_) #[true, true, true, false, false, false, false, false, false, false, false, false, false, false] rfl rfl (any_of HT_.out (by kernel_rfl)) (fun _ _ _ h => h) (Or.inl ⟨by rfl, ?_⟩) ?_ ?_
               rotate_left
               ·
                intro w'
                go_simp
                with_reducible rfl
               rotate_left
               ·
                simp only [Act.put, List.setIfInBounds_toArray, List.set_cons_zero, List.set_cons_succ, i64_w, i32_w]
                rfl
               refine pure_ (i := 3) (N := some 44) (v := ?_) (a' := ?_) #[true, true, true, true, false, false, false, false, false, false, false, false, false, false] rfl rfl (any_of HT_.out (by kernel_rfl)) (fun _ _ _ h => h) (Or.inl ⟨by rfl, ?_⟩) ?_ ?_
               rotate_left
               ·
                intro w'
                go_simp
                with_reducible rfl
               rotate_left
               ·
                simp only [Act.put, List.setIfInBounds_toArray, List.set_cons_zero, List.set_cons_succ, i64_w, i32_w]
                rfl
               refine pure_ (i := 4) (N := some 45) (v := ?_) (a' := ?_) #[true, true, true, true, true, false, false, false, false, false, false, false, false, false] rfl rfl (any_of HT_.out (by kernel_rfl)) (fun _ _ _ h => h) (Or.inl ⟨by rfl, ?_⟩) ?_ ?_
               rotate_left
               ·
                intro w'
                go_simp
                with_reducible rfl
               rotate_left
               ·
                simp only [Act.put, List.setIfInBounds_toArray, List.set_cons_zero, List.set_cons_succ, i64_w, i32_w]
                rfl
               refine pure_ (i := 5) (N := some 46) (v := ?_) (a' := ?_) #[true, true, true, true, true, true, false, false, false, false, false, false, false, false] rfl rfl (any_of HT_.out (by kernel_rfl)) (fun _ _ _ h => h) (Or.inl ⟨by rfl, ?_⟩) ?_ ?_
               rotate_left
               ·
                intro w'
                go_simp
                with_reducible rfl
               rotate_left
               ·
                simp only [Act.put, List.setIfInBounds_toArray, List.set_cons_zero, List.set_cons_succ, i64_w, i32_w]
                rfl
               refine pure_ (i := 6) (N := some 47) (v := ?_) (a' := ?_) #[true, true, true, true, true, true, true, false, false, false, false, false, false, false] rfl rfl (any_of HT_.out (by kernel_rfl)) (fun _ _ _ h => h) (Or.inl ⟨by rfl, ?_⟩) ?_ ?_
               rotate_left
               ·
                intro w'
                go_simp
                with_reducible rfl
               rotate_left
               ·
                simp only [Act.put, List.setIfInBounds_toArray, List.set_cons_zero, List.set_cons_succ, i64_w, i32_w]
                rfl
               refine pure_ (i := 8) (N := some 49) (v := ?_) (a' := ?_) #[true, true, true, true, true, true, true, false, true, false, false, false, false, false] rfl rfl (any_of HT_.out (by kernel_rfl)) (fun _ _ _ h => h) (Or.inl ⟨by rfl, ?_⟩) ?_ ?_
               rotate_left
               ·
                intro w'
                go_simp
                with_reducible rfl
               rotate_left
               ·
                simp only [Act.put, List.setIfInBounds_toArray, List.set_cons_zero, List.set_cons_succ, i64_w, i32_w]
                rfl
               refine pure_ (i := 9) (N := some 50) (v := ?_) (a' := ?_) #[true, true, true, true, true, true, true, false, true, true, false, false, false, false] rfl rfl (any_of HT_.out (by kernel_rfl)) (fun _ _ _ h => h) (Or.inl ⟨by rfl, ?_⟩) ?_ ?_
               rotate_left
               ·
                intro w'
                go_simp
                with_reducible rfl
               rotate_left
               ·
                simp only [Act.put, List.setIfInBounds_toArray, List.set_cons_zero, List.set_cons_succ, i64_w, i32_w]
                rfl
               refine pure_ (i := 10) (N := some 51) (v := ?_) (a' := ?_) #[true, true, true, true, true, true, true, false, true, true, true, false, false, false] rfl rfl (any_of HT_.out (by kernel_rfl)) (fun _ _ _ h => h) (Or.inl ⟨by rfl, ?_⟩) ?_ ?_
               rotate_left
               ·
                intro w'
                go_simp
                with_reducible rfl
               rotate_left
               ·
                simp only [Act.put, List.setIfInBounds_toArray, List.set_cons_zero, List.set_cons_succ, i64_w, i32_w]
                rfl
               refine take_ (i := 7) (N := some 48) (v := ?_) (a' := ?_) #[true, true, true, true, true, true, true, true, true, true, true, false, false, false] rfl rfl (xdY HT_.out HW_.out (by kernel_rfl)) (fun _ _ _ h => h) (Or.inl ⟨by rfl, ?_⟩) hHeld ?_ ?_
               rotate_left
               ·
                intro w' s0
                go_simp
                with_reducible rfl
               rotate_left
               ·
                simp only [Act.put, List.setIfInBounds_toArray, List.set_cons_zero, List.set_cons_succ, i64_w, i32_w]
                rfl
               refine pure_ (i := 11) (N := some 52) (v := ?_) (a' := ?_) #[true, true, true, true, true, true, true, true, true, true, true, true, false, false] rfl rfl (any_of HT_.out (by kernel_rfl)) (fun _ _ _ h => h) (Or.inl ⟨by rfl, ?_⟩) ?_ ?_
               rotate_left
               ·
                intro w'
                go_simp
                with_reducible rfl
               rotate_left
               ·
                simp only [Act.put, List.setIfInBounds_toArray, List.set_cons_zero, List.set_cons_succ, i64_w, i32_w]
                rfl
               refine pure_ (i := 12) (N := some 53) (v := ?_) (a' := ?_) #[true, true, true, true, true, true, true, true, true, true, true, true, true, false] rfl rfl (any_of HT_.out (by kernel_rfl)) (fun _ _ _ h => h) (Or.inl ⟨by rfl, ?_⟩) ?_ ?_
               rotate_left
               ·
                intro w'
                go_simp
                with_reducible rfl
               rotate_left
               ·
                simp only [Act.put, List.setIfInBounds_toArray, List.set_cons_zero, List.set_cons_succ, i64_w, i32_w]
                rfl
               refine last_ (i := 13) (N := none) #[true, true, true, true, true, true, true, true, true, true, true, true, true, true] rfl rfl (one_of HT_.out (by kernel_rfl)) (by decide) (fun K hK => ?_)
               refine skip_ (w1 := ?_) (by rfl) rfl ?_ ?_
               rotate_left
               ·
                go_simp
                rfl
               refine hK.out _ _ ?_
               clear hK K
               refine done_ (xgB HT_.out (by kernel_rfl)) ?_
               try go_wp2
               go_roundg kj15
               case measure => have := HK1.out; have := HJ15.out; omega
               case rel => exact ⟨(t381), (y385), (wrap64 (x8_1 - 1)), (by first | rfl | (simp; done) | (simp [*]; done)), H', ⟨by have := HK1.out; have := HJ15.out; omega⟩, ⟨by (with_reducible repeat (first | apply Kd.xbZ | apply Kd.xbY | apply Kd.R_drew)); exact Kd.R_mono (Kd.R_far (p := ⟨go35, ((ji29) : Int).toNat, none⟩) (Kd.R_mono HO383.out (fun k_ hk => (⟨hk, fun e_ => hk.2 (by rw [e_]; rfl)⟩ : _ ∧ k_ ≠ go35))) (fun _ hk => hk.2) (.int .u64 (IntKind.u64.wrap ((rd x7_1 (ji29)) + (ji34))))) (fun _ hk => hk.1.2)⟩, ⟨by (with_reducible repeat (first | apply Kd.xbZ | apply Kd.xbY | apply Kd.R_drew)); exact Kd.R_mono HQ40.out (fun _ hk => hk.2)⟩, ⟨by repeat (first | (with_reducible first | exact HB.out | apply xaB | apply xaA | apply xaC | refine xaF ?_ GB35.out) | exact HB.out)⟩⟩
              ·
               rw [if_neg c33] at H
               exact absurd H (by simp)
             ·
              rw [if_neg c31] at H
              exact absurd H (by simp)
            ·
             rw [if_neg c30] at H
             exact absurd H (by simp)
           ·
            rw [if_neg c27] at H
            have c27b0 : decide (0 ≤ t380) = false := decide_eq_false c27
            clear c27;have H' := Aside0.mk H;clear H
            obtain ⟨Ao41, co41, eo41⟩ := Kd.xcY HO_6.out
            subst eo41
            go_wp2_with (first | ((with_reducible refine xaQ (f := 126) rfl ?_); refine goesL_ (some 36) rfl rfl Try.func126 (by kernel_rfl) rfl #[.slice Ao41 x6_15.length co41, .slice A1 l1.length c1] rfl (by (try simp only [List.map_toArray, List.map_cons, List.map_nil]); first | done | rfl | (simp only [List.length_drop, List.length_take]; rfl)) ?_; (with_reducible refine (xbS.calls kj15 _ _ x6_15 _ _ l1 t380 _ ?side1 ?side2 ?side3 ?side4 A26.out).mono ?_); (case side1 => repeat (first | exact (Kd.R_reads' HO_6.out).2.2 | (with_reducible refine Kd.xbF ?_ _) | (with_reducible refine Kd.xbE ?_ _) | (with_reducible refine Kd.C_drew ?_))); (case side2 => exact (Kd.R_reads' HO_6.out).2.1); (case side3 => repeat (first | exact (Kd.xbT HR1.out HB.out) | (with_reducible refine Kd.xbF ?_ _) | (with_reducible refine Kd.xbE ?_ _) | (with_reducible refine Kd.C_drew ?_))); (case side4 => exact HC1.out); rintro e w' ⟨rfl, ⟨nd, rfl⟩⟩; refine ⟨_, rfl, ?_⟩))
            go_roundg kj15
            case measure => have := HK1.out; have := HJ15.out; omega
            case rel => exact ⟨(x6_15), (x7_1), (wrap64 (x8_1 - 1)), (by first | rfl | (simp; done) | (simp [*]; done)), H', ⟨by have := HK1.out; have := HJ15.out; omega⟩, ⟨by (with_reducible repeat (first | apply Kd.xbZ | apply Kd.xbY | apply Kd.R_drew)); exact HO_6.out⟩, ⟨by (with_reducible repeat (first | apply Kd.xbZ | apply Kd.xbY | apply Kd.R_drew)); exact HO_7.out⟩, ⟨by repeat (first | (with_reducible first | exact HB.out | apply xaB | apply xaA | apply xaC) | exact HB.out)⟩⟩
        ·
         rw [if_neg c14] at H
         exact absurd H (by simp)
       ·
        rw [if_neg c12] at H
        exact absurd H (by simp)
      ·
       rw [if_neg c11] at H
       exact absurd H (by simp)
     ·
      rw [if_neg c8] at H
      have c8b0 : decide (0 ≤ x8_1) = false := decide_eq_false c8
      clear c8;replace H := Option.bind_eq_some_iff.mp H
      obtain ⟨t367, A420, H⟩ := H
      replace H : (some (t367, x6_1)) = some (r1, r2) := H
      have A42 := Aside0.mk A420;clear A420
      simp only [Option.some.injEq, Prod.mk.injEq] at H
      obtain ⟨rfl, rfl⟩ := H
      obtain ⟨Ao43, co43, eo43⟩ := Kd.xcY HO_7.out
      subst eo43
      go_wp2_with (first | ((with_reducible refine xaQ (f := 128) rfl ?_); refine goesL_ (some 55) rfl rfl Try.func128 (by kernel_rfl) rfl #[.slice Ao43 x7_1.length co43] rfl (by (try simp only [List.map_toArray, List.map_cons, List.map_nil]); first | done | rfl | (simp only [List.length_drop, List.length_take]; rfl)) ?_; (with_reducible refine (xbQ.calls k1 (fun k_ => some k_ = (.slice Ao43 x7_1.length co43 : Value).ownBlock) (.slice Ao43 x7_1.length co43) x7_1 t367 w _ ?side1 ?side2 A42.out).mono ?_); (case side1 => repeat (first | (with_reducible first | exact HB.out | apply xaB | apply xaA | apply xaC) | exact HB.out)); (case side2 => exact Kd.xgN rfl HO_7.out); rintro e w44 ⟨v368, rfl, ho0, hb, hkp⟩; refine ⟨_, rfl, ?_⟩; have n0_ := Aside0.mk (Kd.R_mono (ok' := fun k_ => some k_ ≠ (v368 : Value).ownBlock) (Kd.R_keptB (HO_6.out) hkp (fun k_ hk_ hs_ => (hk_) hs_)) (fun k_ hk_ => fun e_ => Or.elim (ho0.1 k_ e_.symm) (fun hs_ => hk_.2.1 hs_) (fun hn_ => Nat.not_le.2 hk_.2.2 hn_))); have n1_ := Aside0.mk (Kd.R_mono (ok' := fun k_ => some k_ ≠ (u6 : Value).ownBlock) ho0 (fun k_ hk_ => Or.elim hk_ (fun hs_ => fun e_ => (((HO_6.out).1 k_ e_.symm)) hs_) (fun hn_ => (Kd.fresh' (Kd.R_lt (by (with_reducible repeat (first | apply Kd.xbZ | apply Kd.xbY | apply Kd.R_drew)); exact HO_6.out)) k_ hn_)))); have n2_ := Aside0.mk (hb); clear HO_6; clear HB; clear HO_7; have HO_6 := n0_; have HO369 := n1_; have HB := n2_; clear n0_ n1_ n2_; (try clear hb); (try clear hkp); (try clear ho0)))
      go_ret2
      exact ⟨_, _, by first | rfl | (simp [xaL, xaK] <;> rfl) | (simp [*, xaL, xaK] <;> rfl), by (with_reducible repeat (first | apply Kd.xbZ | apply Kd.xbY | apply Kd.R_drew)); exact HO369.out, by (with_reducible repeat (first | apply Kd.xbZ | apply Kd.xbY | apply Kd.R_drew)); exact HO_6.out, by repeat (first | (with_reducible first | exact HB.out | apply xaB | apply xaA | apply xaC) | exact HB.out)⟩
  ·
   rw [if_neg c4] at H
   exact absurd H (by simp)
 ·
  rw [if_neg c3] at H
  exact absurd H (by simp)
end Go.Proofs.Ytoncignjcgjhhaa.Q
namespace Go.Proofs.Ytoncignjcgjhhaa.Q
open Go.RowKit Go.Proofs.YtoncignjcgjhhaaW.PrintWords Go.Proofs.YtoncignjcgjhhaaW.PrintLast Go.Proofs.YtoncignjcgjhhaaW.PrintMore
attribute [local go_sem] xcC xcB xcR xcQ xbX xbW xcF xcE   -- for this text's walks alone
def xdM.f (k : Nat) (a0_0 : Bool) (l0_1 : List Int) (a0_2 : Int) : Option (Bool) := (xbC.f k l0_1).bind fun t387 => (if (wrap64 (t387 + a0_2)) > 1100 then (some true) else ((xbC.f k l0_1).bind fun t388 => (some (decide ((wrap64 (t388 + a0_2)) < (-1200))))))
set_option maxHeartbeats 8000000 in
set_option maxRecDepth 100000 in
theorem xdM.calls (k : Nat) (a0_0 : Bool) (A0_1 : Option Addr) (c0_1 : Nat) (l0_1 : List Int) (a0_2 : Int) (r : Bool) (w : World) (hr0_1 : Kd.C (Kd.int .u64) w A0_1 l0_1.length l0_1) (hc0_1 : l0_1.length ≤ c0_1) (h : xdM.f k a0_0 l0_1 a0_2 = some r) :
  Calls Try.prog 129 #[.agg #[.bool a0_0, .slice A0_1 l0_1.length c0_1, .int .i64 a0_2]] w fun e w' => e = .returned (.bool r) ∧ Below w.heap.size w w' := by
 have hu96 := Try.underlying96;have HR0_1 := Aside0.mk hr0_1;have HC0_1 := Aside0.mk hc0_1;clear hr0_1 hc0_1
 have HB := Aside0.mk (Below.refl w.heap.size w)
 have H : ((xbC.f k l0_1).bind fun t387 => (if (wrap64 (t387 + a0_2)) > 1100 then (some true) else ((xbC.f k l0_1).bind fun t388 => (some (decide ((wrap64 (t388 + a0_2)) < (-1200))))))) = some r := h
 clear h;replace H := Option.bind_eq_some_iff.mp H
 obtain ⟨t387, A20, H⟩ := H
 replace H : (if (wrap64 (t387 + a0_2)) > 1100 then (some true) else ((xbC.f k l0_1).bind fun t388 => (some (decide ((wrap64 (t388 + a0_2)) < (-1200)))))) = some r := H
 have A2 := Aside0.mk A20;clear A20
 by_cases c3 : (wrap64 (t387 + a0_2)) > 1100
 ·
  rw [if_pos c3] at H
  have c3b0 : decide (1100 < (wrap64 (t387 + a0_2))) = true := decide_eq_true c3
  clear c3
  obtain rfl := Option.some.inj H
  go_enter Try.func129, Try.ntmps129
  go_wp2_with (first | ((with_reducible refine xbM (N := 1) rfl ?_); refine xbJ ?hg (N := 1) ?hd (cs := #[.bool a0_0, .slice A0_1 l0_1.length c0_1, .int .i64 a0_2]) (t := 96) ?hr ?_; (case hd => rfl); (case hg => rfl); (case hr => first | (go_simp; done) | (go_simp; rfl)); intro gb386 hg w4 hbox hb; have n0_ := Aside0.mk (xaP (by repeat (first | (with_reducible first | exact HB.out | apply xaB | apply xaA | apply xaC) | exact HB.out)) hb); have n1_ := Aside0.mk (hbox); have n2_ := Aside0.mk ((by rw [hg]; exact (xaR (by repeat (first | (with_reducible first | exact HB.out | apply xaB | apply xaA | apply xaC) | exact HB.out))) : w.heap.size ≤ gb386)); have n3_ := Aside0.mk ((by rw [hg]; exact (xaR (by repeat (first | (with_reducible first | exact HB.out | apply xaB | apply xaA | apply xaC) | exact HB.out))) : w.heap.size ≤ gb386)); clear HB; have HB := n0_; have BK386 := n1_; have GW386 := n2_; have GE386 := n3_; clear n0_ n1_ n2_ n3_; clear hb hbox hg; have hcz5_0 : w4.cell? ⟨gb386, 0, none⟩ = some (.bool a0_0) := (xaE BK386.out 0).trans rfl; have hcz5_1 : w4.cell? ⟨gb386, 1, none⟩ = some (.slice A0_1 l0_1.length c0_1) := (xaE BK386.out 1).trans rfl; have hcz5_2 : w4.cell? ⟨gb386, 2, none⟩ = some (.int .i64 a0_2) := (xaE BK386.out 2).trans rfl; have hfz5_0 := xaD BK386.out 0; have hfz5_1 := xaD BK386.out 1; have hfz5_2 := xaD BK386.out 2) | (go_at_call 100; (with_reducible refine (xbC.calls k _ _ l0_1 t387 _ ?side1 ?side2 A2.out).mono ?_); (case side1 => repeat (first | exact (Kd.xbT HR0_1.out HB.out) | (with_reducible refine Kd.xbF ?_ _) | (with_reducible refine Kd.xbE ?_ _) | (with_reducible refine Kd.C_drew ?_))); (case side2 => exact HC0_1.out); rintro e w' ⟨rfl, ⟨nd, rfl⟩⟩; (try first | exact ⟨rfl, _, World.drewN_drewN _ _ _⟩ | exact ⟨rfl, _, Eq.trans (World.drewN_drewN _ _ _) (congrArg (World.drewN _) (Nat.add_assoc _ _ _))⟩)))
  repeat (go_quiet (first | ((with_reducible refine xbM (N := 1) rfl ?_); refine xbJ ?hg (N := 1) ?hd (cs := #[.bool a0_0, .slice A0_1 l0_1.length c0_1, .int .i64 a0_2]) (t := 96) ?hr ?_; (case hd => rfl); (case hg => rfl); (case hr => first | (go_simp; done) | (go_simp; rfl)); intro gb386 hg w4 hbox hb; have n0_ := Aside0.mk (xaP (by repeat (first | (with_reducible first | exact HB.out | apply xaB | apply xaA | apply xaC) | exact HB.out)) hb); have n1_ := Aside0.mk (hbox); have n2_ := Aside0.mk ((by rw [hg]; exact (xaR (by repeat (first | (with_reducible first | exact HB.out | apply xaB | apply xaA | apply xaC) | exact HB.out))) : w.heap.size ≤ gb386)); have n3_ := Aside0.mk ((by rw [hg]; exact (xaR (by repeat (first | (with_reducible first | exact HB.out | apply xaB | apply xaA | apply xaC) | exact HB.out))) : w.heap.size ≤ gb386)); clear HB; have HB := n0_; have BK386 := n1_; have GW386 := n2_; have GE386 := n3_; clear n0_ n1_ n2_ n3_; clear hb hbox hg; have hcz5_0 : w4.cell? ⟨gb386, 0, none⟩ = some (.bool a0_0) := (xaE BK386.out 0).trans rfl; have hcz5_1 : w4.cell? ⟨gb386, 1, none⟩ = some (.slice A0_1 l0_1.length c0_1) := (xaE BK386.out 1).trans rfl; have hcz5_2 : w4.cell? ⟨gb386, 2, none⟩ = some (.int .i64 a0_2) := (xaE BK386.out 2).trans rfl; have hfz5_0 := xaD BK386.out 0; have hfz5_1 := xaD BK386.out 1; have hfz5_2 := xaD BK386.out 2) | (go_at_call 100; (with_reducible refine (xbC.calls k _ _ l0_1 t387 _ ?side1 ?side2 A2.out).mono ?_); (case side1 => repeat (first | exact (Kd.xbT HR0_1.out HB.out) | (with_reducible refine Kd.xbF ?_ _) | (with_reducible refine Kd.xbE ?_ _) | (with_reducible refine Kd.C_drew ?_))); (case side2 => exact HC0_1.out); rintro e w' ⟨rfl, ⟨nd, rfl⟩⟩; (try first | exact ⟨rfl, _, World.drewN_drewN _ _ _⟩ | exact ⟨rfl, _, Eq.trans (World.drewN_drewN _ _ _) (congrArg (World.drewN _) (Nat.add_assoc _ _ _))⟩))); try go_wp2_with (first | ((with_reducible refine xbM (N := 1) rfl ?_); refine xbJ ?hg (N := 1) ?hd (cs := #[.bool a0_0, .slice A0_1 l0_1.length c0_1, .int .i64 a0_2]) (t := 96) ?hr ?_; (case hd => rfl); (case hg => rfl); (case hr => first | (go_simp; done) | (go_simp; rfl)); intro gb386 hg w4 hbox hb; have n0_ := Aside0.mk (xaP (by repeat (first | (with_reducible first | exact HB.out | apply xaB | apply xaA | apply xaC) | exact HB.out)) hb); have n1_ := Aside0.mk (hbox); have n2_ := Aside0.mk ((by rw [hg]; exact (xaR (by repeat (first | (with_reducible first | exact HB.out | apply xaB | apply xaA | apply xaC) | exact HB.out))) : w.heap.size ≤ gb386)); have n3_ := Aside0.mk ((by rw [hg]; exact (xaR (by repeat (first | (with_reducible first | exact HB.out | apply xaB | apply xaA | apply xaC) | exact HB.out))) : w.heap.size ≤ gb386)); clear HB; have HB := n0_; have BK386 := n1_; have GW386 := n2_; have GE386 := n3_; clear n0_ n1_ n2_ n3_; clear hb hbox hg; have hcz5_0 : w4.cell? ⟨gb386, 0, none⟩ = some (.bool a0_0) := (xaE BK386.out 0).trans rfl; have hcz5_1 : w4.cell? ⟨gb386, 1, none⟩ = some (.slice A0_1 l0_1.length c0_1) := (xaE BK386.out 1).trans rfl; have hcz5_2 : w4.cell? ⟨gb386, 2, none⟩ = some (.int .i64 a0_2) := (xaE BK386.out 2).trans rfl; have hfz5_0 := xaD BK386.out 0; have hfz5_1 := xaD BK386.out 1; have hfz5_2 := xaD BK386.out 2) | (go_at_call 100; (with_reducible refine (xbC.calls k _ _ l0_1 t387 _ ?side1 ?side2 A2.out).mono ?_); (case side1 => repeat (first | exact (Kd.xbT HR0_1.out HB.out) | (with_reducible refine Kd.xbF ?_ _) | (with_reducible refine Kd.xbE ?_ _) | (with_reducible refine Kd.C_drew ?_))); (case side2 => exact HC0_1.out); rintro e w' ⟨rfl, ⟨nd, rfl⟩⟩; (try first | exact ⟨rfl, _, World.drewN_drewN _ _ _⟩ | exact ⟨rfl, _, Eq.trans (World.drewN_drewN _ _ _) (congrArg (World.drewN _) (Nat.add_assoc _ _ _))⟩))))
  go_ret
  exact ⟨by first | rfl | (simp [xaL, xaK] <;> rfl) | (simp [*, xaL, xaK] <;> rfl), by repeat (first | (with_reducible first | exact HB.out | apply xaB | apply xaA | apply xaC | refine xaF ?_ GE386.out) | exact HB.out)⟩
 ·
  rw [if_neg c3] at H
  have c3b0 : decide (1100 < (wrap64 (t387 + a0_2))) = false := decide_eq_false c3
  clear c3;replace H := Option.bind_eq_some_iff.mp H
  obtain ⟨t388, A60, H⟩ := H
  replace H : (some (decide ((wrap64 (t388 + a0_2)) < (-1200)))) = some r := H
  have A6 := Aside0.mk A60
  obtain rfl : t387 = t388 := Option.some.inj (A2.out.symm.trans A6.out)
  clear A60
  obtain rfl := Option.some.inj H
  go_enter Try.func129, Try.ntmps129
  go_wp2_with (first | ((with_reducible refine xbM (N := 1) rfl ?_); refine xbJ ?hg (N := 1) ?hd (cs := #[.bool a0_0, .slice A0_1 l0_1.length c0_1, .int .i64 a0_2]) (t := 96) ?hr ?_; (case hd => rfl); (case hg => rfl); (case hr => first | (go_simp; done) | (go_simp; rfl)); intro gb386 hg w7 hbox hb; have n0_ := Aside0.mk (xaP (by repeat (first | (with_reducible first | exact HB.out | apply xaB | apply xaA | apply xaC) | exact HB.out)) hb); have n1_ := Aside0.mk (hbox); have n2_ := Aside0.mk ((by rw [hg]; exact (xaR (by repeat (first | (with_reducible first | exact HB.out | apply xaB | apply xaA | apply xaC) | exact HB.out))) : w.heap.size ≤ gb386)); have n3_ := Aside0.mk ((by rw [hg]; exact (xaR (by repeat (first | (with_reducible first | exact HB.out | apply xaB | apply xaA | apply xaC) | exact HB.out))) : w.heap.size ≤ gb386)); clear HB; have HB := n0_; have BK386 := n1_; have GW386 := n2_; have GE386 := n3_; clear n0_ n1_ n2_ n3_; clear hb hbox hg; have hcz8_0 : w7.cell? ⟨gb386, 0, none⟩ = some (.bool a0_0) := (xaE BK386.out 0).trans rfl; have hcz8_1 : w7.cell? ⟨gb386, 1, none⟩ = some (.slice A0_1 l0_1.length c0_1) := (xaE BK386.out 1).trans rfl; have hcz8_2 : w7.cell? ⟨gb386, 2, none⟩ = some (.int .i64 a0_2) := (xaE BK386.out 2).trans rfl; have hfz8_0 := xaD BK386.out 0; have hfz8_1 := xaD BK386.out 1; have hfz8_2 := xaD BK386.out 2) | (go_at_call 100; (with_reducible refine (xbC.calls k _ _ l0_1 t387 _ ?side1 ?side2 A2.out).mono ?_); (case side1 => repeat (first | exact (Kd.xbT HR0_1.out HB.out) | (with_reducible refine Kd.xbF ?_ _) | (with_reducible refine Kd.xbE ?_ _) | (with_reducible refine Kd.C_drew ?_))); (case side2 => exact HC0_1.out); rintro e w' ⟨rfl, ⟨nd, rfl⟩⟩; (try first | exact ⟨rfl, _, World.drewN_drewN _ _ _⟩ | exact ⟨rfl, _, Eq.trans (World.drewN_drewN _ _ _) (congrArg (World.drewN _) (Nat.add_assoc _ _ _))⟩)) | (go_at_call 100; (with_reducible refine (xbC.calls k _ _ l0_1 t388 _ ?side1 ?side2 A6.out).mono ?_); (case side1 => repeat (first | exact (Kd.xbT HR0_1.out (by repeat (first | (with_reducible first | exact HB.out | apply xaB | apply xaA | apply xaC | refine xaF ?_ GE386.out) | exact HB.out))) | (with_reducible refine Kd.xbF ?_ _) | (with_reducible refine Kd.xbE ?_ _) | (with_reducible refine Kd.C_drew ?_))); (case side2 => exact HC0_1.out); rintro e w' ⟨rfl, ⟨nd, rfl⟩⟩; (try first | exact ⟨rfl, _, World.drewN_drewN _ _ _⟩ | exact ⟨rfl, _, Eq.trans (World.drewN_drewN _ _ _) (congrArg (World.drewN _) (Nat.add_assoc _ _ _))⟩)))
  repeat (go_quiet (first | ((with_reducible refine xbM (N := 1) rfl ?_); refine xbJ ?hg (N := 1) ?hd (cs := #[.bool a0_0, .slice A0_1 l0_1.length c0_1, .int .i64 a0_2]) (t := 96) ?hr ?_; (case hd => rfl); (case hg => rfl); (case hr => first | (go_simp; done) | (go_simp; rfl)); intro gb386 hg w7 hbox hb; have n0_ := Aside0.mk (xaP (by repeat (first | (with_reducible first | exact HB.out | apply xaB | apply xaA | apply xaC) | exact HB.out)) hb); have n1_ := Aside0.mk (hbox); have n2_ := Aside0.mk ((by rw [hg]; exact (xaR (by repeat (first | (with_reducible first | exact HB.out | apply xaB | apply xaA | apply xaC) | exact HB.out))) : w.heap.size ≤ gb386)); have n3_ := Aside0.mk ((by rw [hg]; exact (xaR (by repeat (first | (with_reducible first | exact HB.out | apply xaB | apply xaA | apply xaC) | exact HB.out))) : w.heap.size ≤ gb386)); clear HB; have HB := n0_; have BK386 := n1_; have GW386 := n2_; have GE386 := n3_; clear n0_ n1_ n2_ n3_; clear hb hbox hg; have hcz8_0 : w7.cell? ⟨gb386, 0, none⟩ = some (.bool a0_0) := (xaE BK386.out 0).trans rfl; have hcz8_1 : w7.cell? ⟨gb386, 1, none⟩ = some (.slice A0_1 l0_1.length c0_1) := (xaE BK386.out 1).trans rfl; have hcz8_2 : w7.cell? ⟨gb386, 2, none⟩ = some (.int .i64 a0_2) := (xaE BK386.out 2).trans rfl; have hfz8_0 := xaD BK386.out 0; have hfz8_1 := xaD BK386.out 1; have hfz8_2 := xaD BK386.out 2) | (go_at_call 100; (with_reducible refine (xbC.calls k _ _ l0_1 t387 _ ?side1 ?side2 A2.out).mono ?_); (case side1 => repeat (first | exact (Kd.xbT HR0_1.out HB.out) | (with_reducible refine Kd.xbF ?_ _) | (with_reducible refine Kd.xbE ?_ _) | (with_reducible refine Kd.C_drew ?_))); (case side2 => exact HC0_1.out); rintro e w' ⟨rfl, ⟨nd, rfl⟩⟩; (try first | exact ⟨rfl, _, World.drewN_drewN _ _ _⟩ | exact ⟨rfl, _, Eq.trans (World.drewN_drewN _ _ _) (congrArg (World.drewN _) (Nat.add_assoc _ _ _))⟩)) | (go_at_call 100; (with_reducible refine (xbC.calls k _ _ l0_1 t388 _ ?side1 ?side2 A6.out).mono ?_); (case side1 => repeat (first | exact (Kd.xbT HR0_1.out (by repeat (first | (with_reducible first | exact HB.out | apply xaB | apply xaA | apply xaC | refine xaF ?_ GE386.out) | exact HB.out))) | (with_reducible refine Kd.xbF ?_ _) | (with_reducible refine Kd.xbE ?_ _) | (with_reducible refine Kd.C_drew ?_))); (case side2 => exact HC0_1.out); rintro e w' ⟨rfl, ⟨nd, rfl⟩⟩; (try first | exact ⟨rfl, _, World.drewN_drewN _ _ _⟩ | exact ⟨rfl, _, Eq.trans (World.drewN_drewN _ _ _) (congrArg (World.drewN _) (Nat.add_assoc _ _ _))⟩))); try go_wp2_with (first | ((with_reducible refine xbM (N := 1) rfl ?_); refine xbJ ?hg (N := 1) ?hd (cs := #[.bool a0_0, .slice A0_1 l0_1.length c0_1, .int .i64 a0_2]) (t := 96) ?hr ?_; (case hd => rfl); (case hg => rfl); (case hr => first | (go_simp; done) | (go_simp; rfl)); intro gb386 hg w7 hbox hb; have n0_ := Aside0.mk (xaP (by repeat (first | (with_reducible first | exact HB.out | apply xaB | apply xaA | apply xaC) | exact HB.out)) hb); have n1_ := Aside0.mk (hbox); have n2_ := Aside0.mk ((by rw [hg]; exact (xaR (by repeat (first | (with_reducible first | exact HB.out | apply xaB | apply xaA | apply xaC) | exact HB.out))) : w.heap.size ≤ gb386)); have n3_ := Aside0.mk ((by rw [hg]; exact (xaR (by repeat (first | (with_reducible first | exact HB.out | apply xaB | apply xaA | apply xaC) | exact HB.out))) : w.heap.size ≤ gb386)); clear HB; have HB := n0_; have BK386 := n1_; have GW386 := n2_; have GE386 := n3_; clear n0_ n1_ n2_ n3_; clear hb hbox hg; have hcz8_0 : w7.cell? ⟨gb386, 0, none⟩ = some (.bool a0_0) := (xaE BK386.out 0).trans rfl; have hcz8_1 : w7.cell? ⟨gb386, 1, none⟩ = some (.slice A0_1 l0_1.length c0_1) := (xaE BK386.out 1).trans rfl; have hcz8_2 : w7.cell? ⟨gb386, 2, none⟩ = some (.int .i64 a0_2) := (xaE BK386.out 2).trans rfl; have hfz8_0 := xaD BK386.out 0; have hfz8_1 := xaD BK386.out 1; have hfz8_2 := xaD BK386.out 2) | (go_at_call 100; (with_reducible refine (xbC.calls k _ _ l0_1 t387 _ ?side1 ?side2 A2.out).mono ?_); (case side1 => repeat (first | exact (Kd.xbT HR0_1.out HB.out) | (with_reducible refine Kd.xbF ?_ _) | (with_reducible refine Kd.xbE ?_ _) | (with_reducible refine Kd.C_drew ?_))); (case side2 => exact HC0_1.out); rintro e w' ⟨rfl, ⟨nd, rfl⟩⟩; (try first | exact ⟨rfl, _, World.drewN_drewN _ _ _⟩ | exact ⟨rfl, _, Eq.trans (World.drewN_drewN _ _ _) (congrArg (World.drewN _) (Nat.add_assoc _ _ _))⟩)) | (go_at_call 100; (with_reducible refine (xbC.calls k _ _ l0_1 t388 _ ?side1 ?side2 A6.out).mono ?_); (case side1 => repeat (first | exact (Kd.xbT HR0_1.out (by repeat (first | (with_reducible first | exact HB.out | apply xaB | apply xaA | apply xaC | refine xaF ?_ GE386.out) | exact HB.out))) | (with_reducible refine Kd.xbF ?_ _) | (with_reducible refine Kd.xbE ?_ _) | (with_reducible refine Kd.C_drew ?_))); (case side2 => exact HC0_1.out); rintro e w' ⟨rfl, ⟨nd, rfl⟩⟩; (try first | exact ⟨rfl, _, World.drewN_drewN _ _ _⟩ | exact ⟨rfl, _, Eq.trans (World.drewN_drewN _ _ _) (congrArg (World.drewN _) (Nat.add_assoc _ _ _))⟩))))
  go_ret
  exact ⟨by first | rfl | (simp [xaL, xaK] <;> rfl) | (simp [*, xaL, xaK] <;> rfl), by repeat (first | (with_reducible first | exact HB.out | apply xaB | apply xaA | apply xaC | refine xaF ?_ GE386.out) | exact HB.out)⟩
def xcL.f (a0 : Bool) (a1 : Int) : Option (Int) := if a0 = true then (some (IntKind.u64.wrap ((mn a1 9218868437227405312) + 9223372036854775808))) else (some (mn a1 9218868437227405312))
set_option maxHeartbeats 8000000 in
set_option maxRecDepth 100000 in
theorem xcL.calls (a0 : Bool) (a1 : Int) (r : Int) (w : World) (h : xcL.f a0 a1 = some r) :
  Calls Try.prog 130 #[.bool a0, .int .u64 a1] w fun e w' => e = .returned (.int .u64 r) ∧ Below w.heap.size w w' := by
 have HB := Aside0.mk (Below.refl w.heap.size w)
 have H : (if a0 = true then (some (IntKind.u64.wrap ((mn a1 9218868437227405312) + 9223372036854775808))) else (some (mn a1 9218868437227405312))) = some r := h
 clear h
 obtain ⟨ji3, hji3⟩ : ∃ j_ : Int, (mn a1 9218868437227405312) = j_ := ⟨_, rfl⟩
 replace H : (if a0 = true then (some (IntKind.u64.wrap ((ji3) + 9223372036854775808))) else (some ji3)) = some r := by first | (rw [hji3] at H; exact H) | (simp only [hji3] at H ⊢; exact H)
 (try (have hji3h : ji3 ≤ 9218868437227405312 := by (rw [← hji3]; unfold mn; (repeat' split) <;> omega)))
 (try (have hji3g : ji3 ≤ 64 := by omega))
 have hji3_ : (if 9218868437227405312 < a1 then 9218868437227405312 else a1) = ji3 := hji3
 by_cases c4 : a0 = true
 ·
  subst c4
  have H1 : (some (IntKind.u64.wrap ((ji3) + 9223372036854775808))) = some r := by rw [if_pos rfl] at H; exact H
  clear H;have H := H1;clear H1
  obtain rfl := Option.some.inj H
  go_enter Try.func130, Try.ntmps130
  go_wp2
  go_ret
  exact ⟨by first | rfl | (simp [xaL, xaK] <;> rfl) | (simp only [← hji3]; first | rfl | (simp [xaL, xaK] <;> rfl)) | (simp [*, xaL, xaK] <;> rfl), by repeat (first | (with_reducible first | exact HB.out | apply xaB | apply xaA | apply xaC) | exact HB.out)⟩
 ·
  replace c4 := Bool.eq_false_iff.mpr c4;subst c4
  have H1 : (some ji3) = some r := by rw [if_neg (show ¬ (false = true) by decide)] at H; exact H
  clear H;have H := H1;clear H1
  obtain rfl := Option.some.inj H
  go_enter Try.func130, Try.ntmps130
  go_wp2
  go_ret
  exact ⟨by first | rfl | (simp [xaL, xaK] <;> rfl) | (simp only [← hji3]; first | rfl | (simp [xaL, xaK] <;> rfl)) | (simp [*, xaL, xaK] <;> rfl), by repeat (first | (with_reducible first | exact HB.out | apply xaB | apply xaA | apply xaC) | exact HB.out)⟩
end Go.Proofs.Ytoncignjcgjhhaa.Q
