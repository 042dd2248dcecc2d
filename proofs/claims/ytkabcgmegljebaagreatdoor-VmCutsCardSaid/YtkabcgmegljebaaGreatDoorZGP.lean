/- Contracts and facts of functions of the program (calendar, dates and their documents), joined in one text by a program of this session. No condition but what each theorem states. -/
import Derived.Test.YtkabcgmegljebaaGreatDoorZGA
import Derived.Test.YtkabcgmegljebaaGreatDoorZGD
import Derived.Test.YtkabcgmegljebaaGreatDoorZGO
set_option linter.unusedVariables false
set_option linter.unusedSimpArgs false
namespace Go.Proofs.YtkabcgmegljebaaGreatDoor.Q
open Go.RowKit Go.Proofs.YtkabcgmegljebaaGreatDoorW.PrintWords Go.Proofs.YtkabcgmegljebaaGreatDoorW.PrintLast Go.Proofs.YtkabcgmegljebaaGreatDoorW.PrintMore
attribute [local go_sem] max2_int min2_int max_two min_two max_three min_three max_four min_four   -- for this text's walks alone
def tenorref14_Of.l0 : Nat → List (S48) → List (S79) → Int → Option ((List (S79)))
  | 0, _, _, _ => none
  | k + 1, x0, x3, x4 => if x4 < (x0.length : Int) then (if 0 ≤ x4 then ((api_Bits.f ((rd_T48 x0 x4).f1)).bind fun t848 => (if x3.length < 5864062014805 then (tenorref14_Of.l0 k x0 (x3 ++ [(⟨(rd_T48 x0 x4).f0, t848, (rd_T48 x0 x4).f2⟩ : S79)]) (wrap64 (x4 + 1))) else (none))) else (none)) else (some x3)
def tenorref14_Of.f (k : Nat) (l0 : List (S48)) : Option ((List (S79))) := tenorref14_Of.l0 k l0 ([] : List (S79)) 0
def tenorref14_Of.T5 : Bool × List (List Nat × List Nat) := (true, [([], []), ([], []), ([], []), ([1, 2], [1, 2]), ([3], [3]), ([4], [4]), ([], []), ([], []), ([6, 7], [6, 7]), ([8], [8]), ([9], [9]), ([10], [10]), ([], []), ([], []), ([12, 13], [12, 13]), ([14], [14]), ([15], [15]), ([5, 11, 16], [5, 11, 16]), ([17], [17]), ([0, 18, 11], [0, 18]), ([19, 19, 0, 1, 2, 3, 4, 5, 6, 7, 8, 9, 10, 11, 12, 13, 14, 15, 16, 17, 18, 19], [0, 19])])
def tenorref14_Of.B5 : List Nat := [0, 0, 0, 6, 14, 30, 0, 0, 192, 448, 960, 1984, 0, 0, 12288, 28672, 61440, 131070, 262142, 524287, 1048575]
theorem tenorref14_Of.tab5 : rtab .any (opsOf Tryz.f25 5) = tenorref14_Of.T5 := by kernel_rfl
theorem tenorref14_Of.bits5 : waitsOk tenorref14_Of.T5.2 tenorref14_Of.B5 = true := by kernel_rfl
set_option maxHeartbeats 8000000 in
set_option maxRecDepth 100000 in
theorem tenorref14_Of.calls (k : Nat) (A0 : Option Addr) (c0 : Nat) (l0 : List (S48)) (r : List (S79)) (w : World) (hr0 : Kd.C k48 w A0 l0.length l0) (hc0 : l0.length ≤ c0) (h : tenorref14_Of.f k l0 = some r) :
  Calls Tryz.prog 25 #[.slice A0 l0.length c0] w fun e w' => ∃ v0_ : Value, e = .returned (v0_) ∧ Kd.R k79 79 w' w.heap.size (fun _ => True) v0_ r ∧ Below w.heap.size w w' := by
 have hu79 := Tryz.underlying79;have HR0 := Aside0.mk hr0;have HC0 := Aside0.mk hc0;clear hr0 hc0
 have HB := Aside0.mk (Below.refl w.heap.size w)
 have H : (tenorref14_Of.l0 k l0 ([] : List (S79)) 0) = some r := h
 clear h;have H' := Aside0.mk H;clear H
 go_enter Tryz.func25, Tryz.ntmps25
 go_wp2
 go_loopg [3, 4] k (fun kq v3 v4 w' => ∃ (x3_1 : List (S79)) (x4_1 : Int), v4 = .int .i64 x4_1 ∧ Aside0 (tenorref14_Of.l0 kq l0 x3_1 x4_1 = some r) ∧ Aside0 (kq ≤ k) ∧ Aside0 (Kd.R k79 79 w' w.heap.size (fun _ => True) v3 x3_1) ∧ Aside0 (Below w.heap.size w w'))
 case atStart => exact ⟨(([] : List (S79))), (0), eS, H', ⟨Nat.le_refl _⟩, ⟨by first | exact Kd.R_nil _ _ _ _ _ | exact Kd.N_nil _ _ _ _ _ | exact Kd.V_nil _ _ _ _ _ | exact Kd.Q_nil _ _ _ _ _ | exact Kd.S_nil _ _ _ _ _⟩, ⟨bB⟩⟩
 case round =>
  clear H'
  obtain ⟨x3_1, x4_1, rfl, HA, HK1, HO_3, HB⟩ := hrel
  cases gk with
  | zero => exact absurd HA.out (by simp [tenorref14_Of.l0])
  | succ k1 =>
   have H := HA.out;clear HA
   simp only [tenorref14_Of.l0] at H
   by_cases c2 : x4_1 < (l0.length : Int)
   ·
    rw [if_pos c2] at H
    have c2b0 : decide (x4_1 < (l0.length : Int)) = true := decide_eq_true c2
    clear c2
    by_cases c3 : 0 ≤ x4_1
    ·
     rw [if_pos c3] at H
     have c3b0 : decide (0 ≤ x4_1) = true := decide_eq_true c3
     clear c3;replace H := Option.bind_eq_some_iff.mp H
     obtain ⟨t848, A40, H⟩ := H
     replace H : (if x3_1.length < 5864062014805 then (tenorref14_Of.l0 k1 l0 (x3_1 ++ [(⟨(rd_T48 l0 x4_1).f0, t848, (rd_T48 l0 x4_1).f2⟩ : S79)]) (wrap64 (x4_1 + 1))) else (none)) = some r := H
     have A4 := Aside0.mk A40;clear A40
     by_cases c5 : x3_1.length < 5864062014805
     ·
      rw [if_pos c5] at H
      have LMc5 := Aside0.mk c5;clear c5
      obtain ⟨y850, hy850⟩ : ∃ y_ : List (S79), y_ = (x3_1 ++ [(⟨(rd_T48 l0 x4_1).f0, t848, (rd_T48 l0 x4_1).f2⟩ : S79)]) := ⟨_, rfl⟩
      replace H : (tenorref14_Of.l0 k1 l0 y850 (wrap64 (x4_1 + 1))) = some r := by first | (rw [hy850]; with_reducible exact H) | (have H2_ := (Option.bind_some _ _).symm.trans H; rw [hy850]; with_reducible exact H2_) | (have H2_ := (Option.bind_some _ _).symm.trans H; with_reducible exact H2_) | with_reducible exact H | (rw [hy850]; exact H) | exact H
      have Ny850 := Aside0.mk hy850;clear hy850;have H' := Aside0.mk H;clear H
      try go_wp2
      replace HO_3 := Aside0.mk (Kd.R_drew HO_3.out)
      replace HB := Aside0.mk (below_drew1 HB.out)
      have p846 : 0 ≤ (x4_1 : Int) := of_decide_eq_true tA
      have q846 : x4_1 < (l0.length : Int) := of_decide_eq_true tA
      obtain ⟨ad846, e846, hx846_0, hx846_1, hx846_2⟩ := at_T48 HR0.out x4_1 p846 q846
      have hw846_2 := hx846_2;have hw846_1 := hx846_1;have hw846_0 := hx846_0
      cases e846
      replace hx846_0 := (HB.out.cell (World.block_lt_of_cell? w _ hx846_0)).trans hx846_0
      replace hx846_1 := (HB.out.cell (World.block_lt_of_cell? w _ hx846_1)).trans hx846_1
      replace hx846_2 := (HB.out.cell (World.block_lt_of_cell? w _ hx846_2)).trans hx846_2
      replace p846 := eq_true p846;replace q846 := eq_true q846
      have p847 : 0 ≤ (x4_1 : Int) := of_decide_eq_true tA
      have q847 : x4_1 < (l0.length : Int) := of_decide_eq_true tA
      obtain ⟨ad847, e847, hx847_0, hx847_1, hx847_2⟩ := at_T48 HR0.out x4_1 p847 q847
      have hw847_2 := hx847_2;have hw847_1 := hx847_1;have hw847_0 := hx847_0
      obtain rfl : ad846 = ad847 := (by injection e847)
      replace hx847_0 := (HB.out.cell (World.block_lt_of_cell? w _ hx847_0)).trans hx847_0
      replace hx847_1 := (HB.out.cell (World.block_lt_of_cell? w _ hx847_1)).trans hx847_1
      replace hx847_2 := (HB.out.cell (World.block_lt_of_cell? w _ hx847_2)).trans hx847_2
      replace p847 := eq_true p847;replace q847 := eq_true q847
      have p849 : 0 ≤ (x4_1 : Int) := of_decide_eq_true tA
      have q849 : x4_1 < (l0.length : Int) := of_decide_eq_true tA
      obtain ⟨ad849, e849, hx849_0, hx849_1, hx849_2⟩ := at_T48 HR0.out x4_1 p849 q849
      have hw849_2 := hx849_2;have hw849_1 := hx849_1;have hw849_0 := hx849_0
      obtain rfl : ad846 = ad849 := (by injection e849)
      replace hx849_0 := (HB.out.cell (World.block_lt_of_cell? w _ hx849_0)).trans hx849_0
      replace hx849_1 := (HB.out.cell (World.block_lt_of_cell? w _ hx849_1)).trans hx849_1
      replace hx849_2 := (HB.out.cell (World.block_lt_of_cell? w _ hx849_2)).trans hx849_2
      replace p849 := eq_true p849;replace q849 := eq_true q849
      refine start_ (n := 21) (S := fun w' => w'.cell? (ad846.add ((x4_1).toNat * 3)) = some (.int .i64 ((rd_T48 l0 x4_1).f0)) ∧ w'.cell? ⟨(ad846.add ((x4_1).toNat * 3)).block, (ad846.add ((x4_1).toNat * 3)).off + 1, none⟩ = some (.float .f64 ((rd_T48 l0 x4_1).f1)) ∧ w'.cell? ⟨(ad846.add ((x4_1).toNat * 3)).block, (ad846.add ((x4_1).toNat * 3)).off + 2, none⟩ = some (.int .i64 ((rd_T48 l0 x4_1).f2)) ∧ w'.cell? (ad846.add ((x4_1).toNat * 3)) = some (.int .i64 ((rd_T48 l0 x4_1).f0)) ∧ w'.cell? ⟨(ad846.add ((x4_1).toNat * 3)).block, (ad846.add ((x4_1).toNat * 3)).off + 1, none⟩ = some (.float .f64 ((rd_T48 l0 x4_1).f1)) ∧ w'.cell? ⟨(ad846.add ((x4_1).toNat * 3)).block, (ad846.add ((x4_1).toNat * 3)).off + 2, none⟩ = some (.int .i64 ((rd_T48 l0 x4_1).f2)) ∧ w'.cell? (ad846.add ((x4_1).toNat * 3)) = some (.int .i64 ((rd_T48 l0 x4_1).f0)) ∧ w'.cell? ⟨(ad846.add ((x4_1).toNat * 3)).block, (ad846.add ((x4_1).toNat * 3)).off + 1, none⟩ = some (.float .f64 ((rd_T48 l0 x4_1).f1)) ∧ w'.cell? ⟨(ad846.add ((x4_1).toNat * 3)).block, (ad846.add ((x4_1).toNat * 3)).off + 2, none⟩ = some (.int .i64 ((rd_T48 l0 x4_1).f2))) (ds := []) #[false, false, false, false, false, false, false, false, false, false, false, false, false, false, false, false, false, false, false, false, false] (by kernel_rfl) rfl rfl ⟨((HB.out.cell (World.block_lt_of_cell? w _ hw846_0)).trans hw846_0), ((HB.out.cell (World.block_lt_of_cell? w _ hw846_1)).trans hw846_1), ((HB.out.cell (World.block_lt_of_cell? w _ hw846_2)).trans hw846_2), ((HB.out.cell (World.block_lt_of_cell? w _ hw847_0)).trans hw847_0), ((HB.out.cell (World.block_lt_of_cell? w _ hw847_1)).trans hw847_1), ((HB.out.cell (World.block_lt_of_cell? w _ hw847_2)).trans hw847_2), ((HB.out.cell (World.block_lt_of_cell? w _ hw849_0)).trans hw849_0), ((HB.out.cell (World.block_lt_of_cell? w _ hw849_1)).trans hw849_1), ((HB.out.cell (World.block_lt_of_cell? w _ hw849_2)).trans hw849_2)⟩ (fun hHeld => ?_); refine with_tabW tenorref14_Of.tab5 tenorref14_Of.bits5 (fun HT_ HW_ => ?_)
      generalize wr.drew = w6 at HO_3 HB hx846_0 hx846_1 hx846_2 hx847_0 hx847_1 hx847_2 hx849_0 hx849_1 hx849_2 hHeld ⊢
      refine pure_ (i := 0) (N := some 11) (v := ?_) (a' := ?_) #[true, false, false, false, false, false, false, false, false, false, false, false, false, false, false, false, false, false, false, false, false] rfl rfl (any_of HT_.out (by kernel_rfl)) (fun _ _ _ h => h) (Or.inl ⟨by rfl, ?_⟩) ?_ ?_
      rotate_left
      ·
       intro w'
       go_simp
       with_reducible rfl
      rotate_left
      ·
       simp only [Act.put, List.setIfInBounds_toArray, List.set_cons_zero, List.set_cons_succ, i64_w, i32_w]
       rfl
      refine pure_ (i := 1) (N := some 12) (v := ?_) (a' := ?_) #[true, true, false, false, false, false, false, false, false, false, false, false, false, false, false, false, false, false, false, false, false] rfl rfl (any_of HT_.out (by kernel_rfl)) (fun _ _ _ h => h) (Or.inl ⟨by rfl, ?_⟩) ?_ ?_
      rotate_left
      ·
       intro w'
       go_simp
       with_reducible rfl
      rotate_left
      ·
       simp only [Act.put, List.setIfInBounds_toArray, List.set_cons_zero, List.set_cons_succ, i64_w, i32_w]
       rfl
      refine pure_ (i := 2) (N := some 13) (v := ?_) (a' := ?_) #[true, true, true, false, false, false, false, false, false, false, false, false, false, false, false, false, false, false, false, false, false] rfl rfl (any_of HT_.out (by kernel_rfl)) (fun _ _ _ h => h) (Or.inl ⟨by rfl, ?_⟩) ?_ ?_
      rotate_left
      ·
       intro w'
       go_simp
       with_reducible rfl
      rotate_left
      ·
       simp only [Act.put, List.setIfInBounds_toArray, List.set_cons_zero, List.set_cons_succ, i64_w, i32_w]
       rfl
      refine pure_ (i := 3) (N := some 14) (v := ?_) (a' := ?_) #[true, true, true, true, false, false, false, false, false, false, false, false, false, false, false, false, false, false, false, false, false] rfl rfl (any_of HT_.out (by kernel_rfl)) (fun _ _ _ h => h) (Or.inl ⟨by rfl, ?_⟩) ?_ ?_
      rotate_left
      ·
       intro w'
       go_simp
       with_reducible rfl
      rotate_left
      ·
       simp only [Act.put, List.setIfInBounds_toArray, List.set_cons_zero, List.set_cons_succ, i64_w, i32_w]
       rfl
      refine pure_ (i := 4) (N := some 15) (v := ?_) (a' := ?_) #[true, true, true, true, true, false, false, false, false, false, false, false, false, false, false, false, false, false, false, false, false] rfl rfl (any_of HT_.out (by kernel_rfl)) (fun _ _ _ h => h) (Or.inl ⟨by rfl, ?_⟩) ?_ ?_
      rotate_left
      ·
       intro w'
       go_simp
       with_reducible rfl
      rotate_left
      ·
       simp only [Act.put, List.setIfInBounds_toArray, List.set_cons_zero, List.set_cons_succ, i64_w, i32_w]
       rfl
      refine pure_ (i := 6) (N := some 17) (v := ?_) (a' := ?_) #[true, true, true, true, true, false, true, false, false, false, false, false, false, false, false, false, false, false, false, false, false] rfl rfl (any_of HT_.out (by kernel_rfl)) (fun _ _ _ h => h) (Or.inl ⟨by rfl, ?_⟩) ?_ ?_
      rotate_left
      ·
       intro w'
       go_simp
       with_reducible rfl
      rotate_left
      ·
       simp only [Act.put, List.setIfInBounds_toArray, List.set_cons_zero, List.set_cons_succ, i64_w, i32_w]
       rfl
      refine pure_ (i := 7) (N := some 18) (v := ?_) (a' := ?_) #[true, true, true, true, true, false, true, true, false, false, false, false, false, false, false, false, false, false, false, false, false] rfl rfl (any_of HT_.out (by kernel_rfl)) (fun _ _ _ h => h) (Or.inl ⟨by rfl, ?_⟩) ?_ ?_
      rotate_left
      ·
       intro w'
       go_simp
       with_reducible rfl
      rotate_left
      ·
       simp only [Act.put, List.setIfInBounds_toArray, List.set_cons_zero, List.set_cons_succ, i64_w, i32_w]
       rfl
      refine pure_ (i := 8) (N := some 19) (v := ?_) (a' := ?_) #[true, true, true, true, true, false, true, true, true, false, false, false, false, false, false, false, false, false, false, false, false] rfl rfl (any_of HT_.out (by kernel_rfl)) (fun _ _ _ h => h) (Or.inl ⟨by rfl, ?_⟩) ?_ ?_
      rotate_left
      ·
       intro w'
       go_simp
       with_reducible rfl
      rotate_left
      ·
       simp only [Act.put, List.setIfInBounds_toArray, List.set_cons_zero, List.set_cons_succ, i64_w, i32_w]
       rfl
      refine pure_ (i := 9) (N := some 20) (v := ?_) (a' := ?_) #[true, true, true, true, true, false, true, true, true, true, false, false, false, false, false, false, false, false, false, false, false] rfl rfl (any_of HT_.out (by kernel_rfl)) (fun _ _ _ h => h) (Or.inl ⟨by rfl, ?_⟩) ?_ ?_
      rotate_left
      ·
       intro w'
       go_simp
       with_reducible rfl
      rotate_left
      ·
       simp only [Act.put, List.setIfInBounds_toArray, List.set_cons_zero, List.set_cons_succ, i64_w, i32_w]
       rfl
      refine pure_ (i := 12) (N := some 23) (v := ?_) (a' := ?_) #[true, true, true, true, true, false, true, true, true, true, false, false, true, false, false, false, false, false, false, false, false] rfl rfl (any_of HT_.out (by kernel_rfl)) (fun _ _ _ h => h) (Or.inl ⟨by rfl, ?_⟩) ?_ ?_
      rotate_left
      ·
       intro w'
       go_simp
       with_reducible rfl
      rotate_left
      ·
       simp only [Act.put, List.setIfInBounds_toArray, List.set_cons_zero, List.set_cons_succ, i64_w, i32_w]
       rfl
      refine pure_ (i := 13) (N := some 24) (v := ?_) (a' := ?_) #[true, true, true, true, true, false, true, true, true, true, false, false, true, true, false, false, false, false, false, false, false] rfl rfl (any_of HT_.out (by kernel_rfl)) (fun _ _ _ h => h) (Or.inl ⟨by rfl, ?_⟩) ?_ ?_
      rotate_left
      ·
       intro w'
       go_simp
       with_reducible rfl
      rotate_left
      ·
       simp only [Act.put, List.setIfInBounds_toArray, List.set_cons_zero, List.set_cons_succ, i64_w, i32_w]
       rfl
      refine pure_ (i := 14) (N := some 25) (v := ?_) (a' := ?_) #[true, true, true, true, true, false, true, true, true, true, false, false, true, true, true, false, false, false, false, false, false] rfl rfl (any_of HT_.out (by kernel_rfl)) (fun _ _ _ h => h) (Or.inl ⟨by rfl, ?_⟩) ?_ ?_
      rotate_left
      ·
       intro w'
       go_simp
       with_reducible rfl
      rotate_left
      ·
       simp only [Act.put, List.setIfInBounds_toArray, List.set_cons_zero, List.set_cons_succ, i64_w, i32_w]
       rfl
      refine pure_ (i := 15) (N := some 26) (v := ?_) (a' := ?_) #[true, true, true, true, true, false, true, true, true, true, false, false, true, true, true, true, false, false, false, false, false] rfl rfl (any_of HT_.out (by kernel_rfl)) (fun _ _ _ h => h) (Or.inl ⟨by rfl, ?_⟩) ?_ ?_
      rotate_left
      ·
       intro w'
       go_simp
       with_reducible rfl
      rotate_left
      ·
       simp only [Act.put, List.setIfInBounds_toArray, List.set_cons_zero, List.set_cons_succ, i64_w, i32_w]
       rfl
      refine take_ (i := 5) (N := some 16) (v := ?_) (a' := ?_) #[true, true, true, true, true, true, true, true, true, true, false, false, true, true, true, true, false, false, false, false, false] rfl rfl (take_ofW HT_.out HW_.out (by kernel_rfl)) (fun _ _ _ h => h) (Or.inl ⟨by rfl, ?_⟩) hHeld ?_ ?_
      rotate_left
      ·
       rintro w' ⟨s0, s1, s2, s3, s4, s5, s6, s7, s8⟩
       go_simp
       with_reducible rfl
      rotate_left
      ·
       simp only [Act.put, List.setIfInBounds_toArray, List.set_cons_zero, List.set_cons_succ, i64_w, i32_w]
       rfl
      refine take_ (i := 10) (N := some 21) (v := ?_) (a' := ?_) #[true, true, true, true, true, true, true, true, true, true, true, false, true, true, true, true, false, false, false, false, false] rfl rfl (take_ofW HT_.out HW_.out (by kernel_rfl)) (fun _ _ _ h => h) (Or.inl ⟨by rfl, ?_⟩) hHeld ?_ ?_
      rotate_left
      ·
       rintro w' ⟨s0, s1, s2, s3, s4, s5, s6, s7, s8⟩
       go_simp
       with_reducible rfl
      rotate_left
      ·
       simp only [Act.put, List.setIfInBounds_toArray, List.set_cons_zero, List.set_cons_succ, i64_w, i32_w]
       rfl
      refine take_ (i := 16) (N := some 27) (v := ?_) (a' := ?_) #[true, true, true, true, true, true, true, true, true, true, true, false, true, true, true, true, true, false, false, false, false] rfl rfl (take_ofW HT_.out HW_.out (by kernel_rfl)) (fun _ _ _ h => h) (Or.inl ⟨by rfl, ?_⟩) hHeld ?_ ?_
      rotate_left
      ·
       rintro w' ⟨s0, s1, s2, s3, s4, s5, s6, s7, s8⟩
       go_simp
       with_reducible rfl
      rotate_left
      ·
       simp only [Act.put, List.setIfInBounds_toArray, List.set_cons_zero, List.set_cons_succ, i64_w, i32_w]
       rfl
      refine one_ (i := 11) (N := some 22) #[true, true, true, true, true, true, true, true, true, true, true, true, true, true, true, true, true, false, false, false, false] rfl rfl (one_of HT_.out (by kernel_rfl)) (by decide) (fun K hK => ?_)
      refine goes_ Tryz.func29 (by kernel_rfl) rfl #[.float .f64 ((rd_T48 l0 x4_1).f1)] (by rfl) rfl rfl (by (try simp only [List.map_toArray, List.map_cons, List.map_nil]); first | done | rfl | (simp only [List.length_drop, List.length_take]; rfl)) ?_
      with_reducible refine (api_Bits.calls ((rd_T48 l0 x4_1).f1) t848 _ A4.out).mono ?_
      rintro e w' ⟨rfl, ⟨nd, rfl⟩⟩
      refine ⟨_, rfl, ?_⟩
      refine hK.out _ _ ⟨((HB.out.cell (World.block_lt_of_cell? w _ hw846_0)).trans hw846_0), ((HB.out.cell (World.block_lt_of_cell? w _ hw846_1)).trans hw846_1), ((HB.out.cell (World.block_lt_of_cell? w _ hw846_2)).trans hw846_2), ((HB.out.cell (World.block_lt_of_cell? w _ hw847_0)).trans hw847_0), ((HB.out.cell (World.block_lt_of_cell? w _ hw847_1)).trans hw847_1), ((HB.out.cell (World.block_lt_of_cell? w _ hw847_2)).trans hw847_2), ((HB.out.cell (World.block_lt_of_cell? w _ hw849_0)).trans hw849_0), ((HB.out.cell (World.block_lt_of_cell? w _ hw849_1)).trans hw849_1), ((HB.out.cell (World.block_lt_of_cell? w _ hw849_2)).trans hw849_2)⟩ (fun hHeld => ?_)
      clear hK K
      refine norm_ (a' := ?_) ?_ ?_
      rotate_left
      ·
       show Act.put _ (some 22) _ = _
       simp only [Act.put, List.setIfInBounds_toArray, List.set_cons_zero, List.set_cons_succ, i64_w, i32_w]
       rfl
      refine pure_ (i := 17) (N := some 28) (v := ?_) (a' := ?_) #[true, true, true, true, true, true, true, true, true, true, true, true, true, true, true, true, true, true, false, false, false] rfl rfl (any_of HT_.out (by kernel_rfl)) (fun _ _ _ h => h) (Or.inl ⟨by rfl, ?_⟩) ?_ ?_
      rotate_left
      ·
       intro w'
       go_simp
       with_reducible rfl
      rotate_left
      ·
       simp only [Act.put, List.setIfInBounds_toArray, List.set_cons_zero, List.set_cons_succ, i64_w, i32_w]
       rfl
      refine one_ (i := 18) (N := some 29) #[true, true, true, true, true, true, true, true, true, true, true, true, true, true, true, true, true, true, true, false, false] rfl rfl (one_of HT_.out (by kernel_rfl)) (by decide) (fun K hK => ?_)
      refine value_ (w1 := ?_) (v := ?_) (by rfl) rfl ?_ ?_
      rotate_left 2
      ·
       go_simp
       constructor
       ·
        rfl
       ·
        rfl
      refine hK.out _ _ ⟨(World.cell?_alloc_lt _ _ _ (World.block_lt_of_cell? _ _ (((HB.out.cell (World.block_lt_of_cell? w _ hw846_0)).trans hw846_0)))).trans (((HB.out.cell (World.block_lt_of_cell? w _ hw846_0)).trans hw846_0)), (World.cell?_alloc_lt _ _ _ (World.block_lt_of_cell? _ _ (((HB.out.cell (World.block_lt_of_cell? w _ hw846_1)).trans hw846_1)))).trans (((HB.out.cell (World.block_lt_of_cell? w _ hw846_1)).trans hw846_1)), (World.cell?_alloc_lt _ _ _ (World.block_lt_of_cell? _ _ (((HB.out.cell (World.block_lt_of_cell? w _ hw846_2)).trans hw846_2)))).trans (((HB.out.cell (World.block_lt_of_cell? w _ hw846_2)).trans hw846_2)), (World.cell?_alloc_lt _ _ _ (World.block_lt_of_cell? _ _ (((HB.out.cell (World.block_lt_of_cell? w _ hw847_0)).trans hw847_0)))).trans (((HB.out.cell (World.block_lt_of_cell? w _ hw847_0)).trans hw847_0)), (World.cell?_alloc_lt _ _ _ (World.block_lt_of_cell? _ _ (((HB.out.cell (World.block_lt_of_cell? w _ hw847_1)).trans hw847_1)))).trans (((HB.out.cell (World.block_lt_of_cell? w _ hw847_1)).trans hw847_1)), (World.cell?_alloc_lt _ _ _ (World.block_lt_of_cell? _ _ (((HB.out.cell (World.block_lt_of_cell? w _ hw847_2)).trans hw847_2)))).trans (((HB.out.cell (World.block_lt_of_cell? w _ hw847_2)).trans hw847_2)), (World.cell?_alloc_lt _ _ _ (World.block_lt_of_cell? _ _ (((HB.out.cell (World.block_lt_of_cell? w _ hw849_0)).trans hw849_0)))).trans (((HB.out.cell (World.block_lt_of_cell? w _ hw849_0)).trans hw849_0)), (World.cell?_alloc_lt _ _ _ (World.block_lt_of_cell? _ _ (((HB.out.cell (World.block_lt_of_cell? w _ hw849_1)).trans hw849_1)))).trans (((HB.out.cell (World.block_lt_of_cell? w _ hw849_1)).trans hw849_1)), (World.cell?_alloc_lt _ _ _ (World.block_lt_of_cell? _ _ (((HB.out.cell (World.block_lt_of_cell? w _ hw849_2)).trans hw849_2)))).trans (((HB.out.cell (World.block_lt_of_cell? w _ hw849_2)).trans hw849_2))⟩ (fun hHeld => ?_)
      clear hK K
      refine norm_ (a' := ?_) ?_ ?_
      rotate_left
      ·
       show Act.put _ (some 29) _ = _
       simp only [Act.put, List.setIfInBounds_toArray, List.set_cons_zero, List.set_cons_succ, i64_w, i32_w]
       rfl
      refine one_ (i := 19) (N := some 30) #[true, true, true, true, true, true, true, true, true, true, true, true, true, true, true, true, true, true, true, true, false] rfl rfl (one_of HT_.out (by kernel_rfl)) (by decide) (fun K hK => ?_)
      refine Kd.R_append_step k79 (w0 := w) w.heap.size (by rfl) (.tmp 11) (.tmp 29) 28 79 (.agg #[(.int .i64 0), (.int .u64 0), (.int .i64 0)]) 24 rfl Tryz.underlying28 info79 rfl (by decide) (by omega) u3 x3_1 (⟨(rd_T48 l0 x4_1).f0, t848, (rd_T48 l0 x4_1).f2⟩ : S79) [.int .i64 ((rd_T48 l0 x4_1).f0), .int .u64 t848, .int .i64 ((rd_T48 l0 x4_1).f2)] (fun _ => True) (fun _ => False) rfl rfl ?aP (fun _ hk => hk.elim) ?aF ?aO ?aB ?aS ?aL ?_
      (case aP => exact k79_mkM _ _ _ (⟨(rd_T48 l0 x4_1).f0, t848, (rd_T48 l0 x4_1).f2⟩ : S79))
      (case aB => exact bB)
      (case aF => exact (fun _ _ => trivial))
      (case aO => exact (bR HO_3))
      (case aS => exact (below_size bB))
      (case aL => have := LMc5.out; omega)
      intro v851 w7 ho hb hg hat
      rw [← Ny850.out] at ho
      replace HB := Aside0.mk (hb)
      have HO852 := Aside0.mk (ho)
      clear HO_3
      clear ho hb hg hat
      refine hK.out _ _ ⟨((HB.out.cell (World.block_lt_of_cell? w _ hw846_0)).trans hw846_0), ((HB.out.cell (World.block_lt_of_cell? w _ hw846_1)).trans hw846_1), ((HB.out.cell (World.block_lt_of_cell? w _ hw846_2)).trans hw846_2), ((HB.out.cell (World.block_lt_of_cell? w _ hw847_0)).trans hw847_0), ((HB.out.cell (World.block_lt_of_cell? w _ hw847_1)).trans hw847_1), ((HB.out.cell (World.block_lt_of_cell? w _ hw847_2)).trans hw847_2), ((HB.out.cell (World.block_lt_of_cell? w _ hw849_0)).trans hw849_0), ((HB.out.cell (World.block_lt_of_cell? w _ hw849_1)).trans hw849_1), ((HB.out.cell (World.block_lt_of_cell? w _ hw849_2)).trans hw849_2)⟩ (fun hHeld => ?_)
      clear hK K
      refine norm_ (a' := ?_) ?_ ?_
      rotate_left
      ·
       show Act.put _ (some 30) _ = _
       simp only [Act.put, List.setIfInBounds_toArray, List.set_cons_zero, List.set_cons_succ, i64_w, i32_w]
       rfl
      refine pure_ (i := 20) (N := some 3) (v := ?_) (a' := ?_) #[true, true, true, true, true, true, true, true, true, true, true, true, true, true, true, true, true, true, true, true, true] rfl rfl (any_of HT_.out (by kernel_rfl)) (fun _ _ _ h => h) (Or.inl ⟨by rfl, ?_⟩) ?_ ?_
      rotate_left
      ·
       intro w'
       go_simp
       with_reducible rfl
      rotate_left
      ·
       simp only [Act.put, List.setIfInBounds_toArray, List.set_cons_zero, List.set_cons_succ, i64_w, i32_w]
       rfl
      refine done_ (done_of HT_.out (by kernel_rfl)) ?_
      try go_wp2
      go_roundg k1
      case measure => have := HK1.out; omega
      case rel => exact ⟨(y850), (wrap64 (x4_1 + 1)), eS, H', ⟨by have := HK1.out; omega⟩, ⟨(bR HO852)⟩, ⟨bB⟩⟩
     ·
      rw [if_neg c5] at H
      exact absurd H (by simp)
    ·
     rw [if_neg c3] at H
     exact absurd H (by simp)
   ·
    rw [if_neg c2] at H
    have c2b0 : decide (x4_1 < (l0.length : Int)) = false := decide_eq_false c2
    clear c2
    obtain rfl := Option.some.inj H
    go_wp2
    go_ret
    exact ⟨_, eW, (bR HO_3), bB⟩
-- NOT PRINTED: function 6 (tenorlaw19_VmCuts)
-- NOT PRINTED: function 41 (api_Op_41)
-- NOT PRINTED: function 42 (code_laid)
-- NOT PRINTED: function 68 (code_idle)
-- NOT PRINTED: function 43 (code_trimmed)
-- NOT PRINTED: function 44 (code_pieces)
-- NOT PRINTED: function 26 (code_Trim)
-- NOT PRINTED: function 7 (tenorlaw19_VmTrims)
end Go.Proofs.YtkabcgmegljebaaGreatDoor.Q
namespace Go.Proofs.YtkabcgmegljebaaGreatDoor.H
open Go.RowKit Go.Proofs.YtkabcgmegljebaaGreatDoorW.PrintWords Go.Proofs.YtkabcgmegljebaaGreatDoorW.PrintLast Go.Proofs.YtkabcgmegljebaaGreatDoorW.PrintMore
open Go.Proofs.YtkabcgmegljebaaGreatDoor.Q
def ofF (f : S48) : S79 := ⟨f.f0, (f.f1 : Int), f.f2⟩
theorem bits_f (x : Nat) : api_Bits.f x = some (x : Int) := by unfold api_Bits.f; rfl
theorem of_l0 (l : List S48) (hl : l.length ≤ 4096) : ∀ (f i : Nat), i + f = l.length → Ev (fun k => tenorref14_Of.l0 k l ((l.take i).map ofF) (i : Int)) (l.map ofF)
 | 0, i, h => by
  refine Ev.step (f := fun _ => some (l.map ofF)) (fun k => ?_) (Ev.now _)
  rw [tenorref14_Of.l0, if_neg (by omega), List.take_of_length_le (by omega)]
 | f + 1, i, h => by
  have hlt : i < l.length := by omega
  have hrec := of_l0 l hl f (i + 1) (by omega)
  have hw : wrap64 ((i : Int) + 1) = ((i + 1 : Nat) : Int) := by rw [L.w64 (by omega) (by omega)]; push_cast; rfl
  refine Ev.step (fun k => ?_) hrec
  rw [tenorref14_Of.l0, if_pos (by omega), if_pos (by omega), rd48 hlt, bits_f, Option.bind_some, if_pos (by rw [List.length_map, List.length_take]; omega), hw, map_take_succ ofF l i hlt]
  rfl
theorem of_c (l : List S48) (A : Option Addr) (c : Nat) (w : World) (hr : Kd.C k48 w A l.length l) (hl : l.length ≤ 4096) (hc : l.length ≤ c) :
  Calls Tryz.prog 25 #[.slice A l.length c] w fun e w' => ∃ v, e = .returned v ∧ Kd.R k79 79 w' w.heap.size (fun _ => True) v (l.map ofF) ∧ Below w.heap.size w w' := by
 obtain ⟨k, hk⟩ := of_l0 l hl l.length 0 (by omega)
 have h := hk k (Nat.le_refl _)
 exact tenorref14_Of.calls k A c l (l.map ofF) w hr hc h
theorem rd79 {l : List S48} {i : Nat} (h : i < l.length) : rd_T79 (l.map ofF) (i : Int) = ofF l[i] := by
  unfold rd_T79; simp [h]
theorem sameN_c (x : Int) (w : World) : Calls Tryz.prog 30 #[.int .u64 x, .int .u64 x] w fun e w' => e = .returned (.bool true) ∧ w' = w := by
 have h : (x == x) = true := beq_self_eq_true x
 go_enter Tryz.func30, Tryz.ntmps30
 go_wp2
 go_ret
 exact ⟨rfl, rfl⟩
set_option maxHeartbeats 1000000 in
set_option maxRecDepth 100000 in
theorem same_c (l : List S48) (A A2 : Option Addr) (c c2 : Nat) (w : World) (hr : Kd.C k48 w A l.length l) (hr2 : Kd.C k79 w A2 l.length (l.map ofF)) (hl : l.length ≤ 4096) :
  Calls Tryz.prog 13 #[.slice A l.length c, .slice A2 l.length c2] w fun e w' => e = .returned (.bool true) ∧ Below w.heap.size w w' := by
 have HR := Aside0.mk hr;have HR2 := Aside0.mk hr2;have HL := Aside0.mk hl
 have t0 : ((l.length : Int) != (l.length : Int)) = false := bne_self_eq_false _
 clear hr hr2 hl
 go_enter Tryz.func13, Tryz.ntmps13
 go_wp2_with fail
 go_loopg [5] (l.length) (fun kq v5 w' => ∃ i : Nat, i ≤ l.length ∧ kq + i = l.length ∧ v5 = .int .i64 i ∧ Aside0 (Below w.heap.size w w'))
 case atStart => exact ⟨0, by omega, by omega, rfl, ⟨by repeat (first | exact Below.refl _ _ | apply pw_below_drewN | apply below_drew1)⟩⟩
 case round =>
  obtain ⟨i, hi, hk, rfl, HBW⟩ := hrel
  by_cases hlt : i < l.length
  ·
   obtain ⟨ad, e, h0, h1, h2⟩ := at_T48 (Kd.C_below HR.out HBW.out) (i : Int) (by omega) (by omega)
   subst e
   obtain ⟨ad2, e, g0, g1, g2⟩ := at_T79 (Kd.C_below HR2.out HBW.out) (i : Int) (by omega) (by omega)
   subst e
   rw [rd48 hlt] at h0 h1 h2
   rw [rd79 hlt] at g0 g1 g2
   rw [Int.toNat_natCast] at h0 h1 h2 g0 g1 g2
   generalize l[i] = x at h0 h1 h2 g0 g1 g2
   obtain ⟨x0, x1, x2⟩ := x
   simp only [ofF] at h0 h1 h2 g0 g1 g2
   have hmx : (i : Int) + 1 ≤ 9223372036854775807 := by have := HL.out; omega
   have u0 : (x0 != x0) = false := bne_self_eq_false _
   have u2 : (x2 != x2) = false := bne_self_eq_false _
   go_wp2_with fail
   go_quiet (first | (go_at_call 29; exact Calls.quiet_of_same (bits_same _ _)) | (go_at_call 30; exact Calls.quiet_of_same (sameN_c _ _)))
   go_wp2
   go_roundg (gk - 1)
   case measure => omega
   case rel => exact ⟨i + 1, by omega, by omega, by go_num, ⟨pw_below_drewN HBW.out _⟩⟩
  ·
   go_wp2_with fail
   go_ret
   exact ⟨rfl, HBW.out⟩
end Go.Proofs.YtkabcgmegljebaaGreatDoor.H
namespace Go.Proofs.YtkabcgmegljebaaGreatDoor.H
open Go.RowKit Go.Proofs.YtkabcgmegljebaaGreatDoorW.PrintWords Go.Proofs.YtkabcgmegljebaaGreatDoorW.PrintLast Go.Proofs.YtkabcgmegljebaaGreatDoorW.PrintMore
open Go.Proofs.YtkabcgmegljebaaGreatDoor.Q
instance : Flat k79 := ⟨fun {w w' x cs} h => by rw [k79_open h]; exact k79_mk w' x⟩
theorem and7 (x : Int) : 0 ≤ Go.bits .and .i64 x 7 ∧ Go.bits .and .i64 x 7 ≤ 7 := by
 have h1 : ((BitVec.ofInt 64 x) &&& (BitVec.ofInt 64 7)).toNat ≤ 7 := by
  rw [BitVec.toNat_and, show (BitVec.ofInt 64 7).toNat = 7 by decide]
  exact Nat.and_le_right
 have h2 : Go.bits .and .i64 x 7 = IntKind.wrap .i64 ((((BitVec.ofInt 64 x) &&& (BitVec.ofInt 64 7)).toNat : Nat) : Int) := rfl
 rw [h2]
 generalize ((BitVec.ofInt 64 x) &&& (BitVec.ofInt 64 7)).toNat = n at h1
 have h3 : IntKind.wrap .i64 (n : Int) = (n : Int) := by rw [i64_w]; exact L.w64 (by omega) (by omega)
 rw [h3]
 omega
theorem want_eq {l : List S37} {a : Int} : runT fixF (0, a) l = flowsT (ends (runN fixF 8193 (st0 l)).2) := by
 unfold runT
 rw [if_pos rfl]
 have h : stepM fixF (st0 l) 8193 = (⟨(runN fixF 8193 (st0 l)).1, (ends (runN fixF 8193 (st0 l)).2).ended, (runN fixF 8193 (st0 l)).2.fault⟩, 0, ends (runN fixF 8193 (st0 l)).2) := by
  unfold stepM
  rw [show (st0 l).ended = false from rfl, if_neg (by decide), if_neg (by omega)]
  rfl
 rw [h]
theorem want_len {l : List S37} (hg : Good fixF l) : (flowsT (ends (runN fixF 8193 (st0 l)).2)).1.length ≤ 4096 := by
 have h := (run_inv (fxs := fixF) 8193 (st0 l) hg (inv0 l)).1.ok.len
 unfold flowsT
 split
 ·
  split
  ·
   exact h
  ·
   exact Nat.zero_le _
 ·
  exact Nat.zero_le _
theorem cn1 {gk i len : Nat} {a b : Int} (h1 : gk + i = len + 1) (h2 : a + 1 ≤ b ∧ b < (len : Int)) (h3 : (i : Int) ≤ a ∧ a ≤ len) : (gk - 1) + (i + 1) = len + 1 ∧ gk - 1 < gk := by omega
theorem cn2 {i len : Nat} {a b : Int} (h2 : a + 1 ≤ b ∧ b < (len : Int)) (h3 : (i : Int) ≤ a ∧ a ≤ len) : ((i + 1 : Nat) : Int) ≤ b ∧ b ≤ (len : Int) := by push_cast; omega
theorem cn3 {i len : Nat} {a : Int} (h3 : (i : Int) ≤ a ∧ a ≤ len) (hl : len ≤ 100) : wrap64 ((i : Int) + 1) = (i : Int) + 1 := L.w64 (by omega) (by omega)
section
variable (l : List S37) (steps : List Int) (A B : Option Addr) (c cb : Nat) (w : World)
set_option maxHeartbeats 1000000 in
set_option maxRecDepth 100000 in
theorem cuts_bad (hk : KT w) (hr : Kd.C k37 w A l.length l) (he : (chk l).1 ≠ 0) : Calls Tryz.prog 6 #[.slice A l.length c, .slice B steps.length cb] w fun e w' => e = .returned (.bool true) ∧ Below w.heap.size w w' := by
 have hn := new_bad (c := c) hk hr (ck_chk l) he
 generalize (chk l).1 = e1 at hn he
 generalize (chk l).2.1 = a1 at hn
 simp only at hn
 have HN := Aside0.mk hn;have HK := Aside0.mk hk
 have t0 : (e1 != 0) = true := bne_iff_ne.2 he
 clear hn hk hr he
 by_cases h1 : 100 < l.length
 ·
  have t1 : decide ((l.length : Int) > 100) = true := decide_eq_true (by omega)
  clear h1
  go_enter Tryz.func6, Tryz.ntmps6
  go_wp2_with (first | (go_at_call 14; (with_reducible refine (HN.out).mono ?_); rintro e w1 ⟨rfl, hb⟩; have HB := Aside0.mk hb; clear hb) | (go_at_call 9; (with_reducible refine (awake_c _ (HK.out.below HB.out)).mono ?_); rintro e w2 ⟨rfl, hb⟩; have HB2 := Aside0.mk hb; clear hb))
  go_ret
  exact ⟨rfl, HB.out.trans (HB2.out.mono HB.out.size)⟩
 ·
  have t1 : decide ((l.length : Int) > 100) = false := decide_eq_false (by omega)
  clear h1
  go_enter Tryz.func6, Tryz.ntmps6
  go_wp2_with (first | (go_at_call 14; (with_reducible refine (HN.out).mono ?_); rintro e w1 ⟨rfl, hb⟩; have HB := Aside0.mk hb; clear hb) | (go_at_call 9; (with_reducible refine (awake_c _ (HK.out.below HB.out)).mono ?_); rintro e w2 ⟨rfl, hb⟩; have HB2 := Aside0.mk hb; clear hb))
  go_ret
  exact ⟨rfl, HB.out.trans (HB2.out.mono HB.out.size)⟩
set_option maxHeartbeats 1000000 in
set_option maxRecDepth 100000 in
theorem cuts_long (hk : KT w) (hr : Kd.C k37 w A l.length l) (he : (chk l).1 = 0) (hl : 100 < l.length) : Calls Tryz.prog 6 #[.slice A l.length c, .slice B steps.length cb] w fun e w' => e = .returned (.bool true) ∧ Below w.heap.size w w' := by
 have hn := new_ok (c := c) hk hr (ck_chk l) he (chk_good he).1.len
 have HN := Aside0.mk hn;have HK := Aside0.mk hk
 have t1 : decide ((l.length : Int) > 100) = true := decide_eq_true (by omega)
 clear hn hk hr he hl
 go_enter Tryz.func6, Tryz.ntmps6
 go_wp2_with (first | (go_at_call 14; (with_reducible refine (HN.out).mono ?_); rintro e w1 ⟨gn, A1, k1, rfl, hb, _, _⟩; have HB := Aside0.mk hb; clear hb) | (go_at_call 9; (with_reducible refine (awake_c _ (HK.out.below HB.out)).mono ?_); rintro e w2 ⟨rfl, hb⟩; have HB2 := Aside0.mk hb; clear hb))
 go_ret
 exact ⟨rfl, HB.out.trans (HB2.out.mono HB.out.size)⟩
set_option maxHeartbeats 4000000 in
set_option maxRecDepth 100000 in
theorem cuts_ok (hk : KT w) (hr : Kd.C k37 w A l.length l) (hs : Kd.C (Kd.int .i64) w B steps.length steps) (hsl : (steps.length : Int) ≤ 9223372036854775807) (he : (chk l).1 = 0) (hl : l.length ≤ 100) : Calls Tryz.prog 6 #[.slice A l.length c, .slice B steps.length cb] w fun e w' => e = .returned (.bool true) ∧ Below w.heap.size w w' := by
 obtain ⟨hg, hM⟩ := chk_good he
 have hck := ck_chk l
 have hmk := fun w hk hr => marks_c l A c w hk hr
 have hml : marksT l = ((chk l).2.2, 0) := by unfold marksT; rw [if_pos he]
 rw [hml] at hmk
 generalize (chk l).2.2 = M at hM hmk
 generalize (chk l).2.1 = a1 at hck
 rw [he] at hck
 have h0M : 0 ≤ M := by have := hM 0 (Nat.zero_le _); simpa [depthL] using this
 have hrd0 := rd0 hg M h0M;have hwl := want_len hg
 have hn := fun w hk hr => new_ok (c := c) (w := w) (A := A) hk hr hck rfl hg.len
 have hrun := fun w hk hr => run_ok (c := c) (w := w) (A := A) hk fixF hr hck (fun _ => hg)
 rw [want_eq] at hrun
 generalize (runN fixF 8193 (st0 l)).2 = T at hrd0 hrun hwl
 obtain ⟨⟨lw, fw⟩, hwant⟩ : ∃ p, flowsT (ends T) = p := ⟨_, rfl⟩
 rw [hwant] at hrun hwl
 simp only at hrun hwl
 have HG := Aside0.mk hg;have HGM := Aside0.mk hM;have HWANT := Aside0.mk hwant;have HWL := Aside0.mk hwl;have HMK := Aside0.mk hmk;have HRD0 := Aside0.mk hrd0;have HRUN := Aside0.mk hrun
 have HN := Aside0.mk (hn w hk hr)
 have HK := Aside0.mk hk;have HR := Aside0.mk hr;have HST := Aside0.mk hs;have HSL := Aside0.mk hsl;have HL := Aside0.mk hl
 have t1 : decide ((l.length : Int) > 100) = false := decide_eq_false (by omega)
 have h_len1 : IntKind.i64.wrap ((l.length : Int) + 1) = (l.length : Int) + 1 := by rw [i64_w]; exact L.w64 (by omega) (by omega)
 have h_len2 : wrap64 ((l.length : Int) + 1) = (l.length : Int) + 1 := L.w64 (by omega) (by omega)
 clear hg hM hck hmk hml he hrd0 hwl hn hrun hk hr hs hsl hl hwant
 go_enter Tryz.func6, Tryz.ntmps6
 go_upto_region 4 with (go_at_call 14; (with_reducible refine (HN.out).mono ?_); rintro e w1 ⟨gn, A1, k1, rfl, hb, hx, _⟩; have HB := Aside0.mk hb; have HM := Aside0.mk hx; have HGW := Aside0.mk ((hx.hF gn hx.hg).2); clear hb hx)
 clear HN
 go_upto_region 5 with (go_at_call 10; (with_reducible refine (HRUN.out _ (HK.out.below HB.out) (Kd.C_below HR.out HB.out)).mono ?_); rintro e w2 ⟨Aw, cw, rfl, hs, hb⟩; have HW := Aside0.mk (hs.new); have HSZ := Aside0.mk hb.size; replace HM := Aside0.mk (HM.out.below hb); replace HB := Aside0.mk (HB.out.trans (hb.mono HB.out.size)); clear hs hb)
 clear HRUN
 go_upto_region 6 with (go_at_call 24; (with_reducible refine (HMK.out _ (HK.out.below HB.out) (Kd.C_below HR.out HB.out)).mono ?_); rintro e w3 ⟨rfl, hb⟩; have HSZ3 := Aside0.mk hb.size; replace HM := Aside0.mk (HM.out.below hb); replace HW := Aside0.mk (HW.out.below hb); replace HB := Aside0.mk (HB.out.trans (hb.mono HB.out.size)); clear hb)
 clear HMK
 go_wp2_with fail
 go_loopg [12, 13] (l.length + 1) (fun kq v12 v13 w' => ∃ (i : Nat) (s : St) (F : Nat → Prop) (Af : Option Addr) (cf : Nat) (Am : Option Addr) (cm : Nat), kq + i = l.length + 1 ∧ v13 = .int .i64 i ∧ v12 = .int .i64 s.loc ∧ Aside0 ((i : Int) ≤ s.loc ∧ s.loc ≤ l.length) ∧ Aside0 (Rd fixF l M T s) ∧ Aside0 (∀ k, F k → k = gn ∨ w2.heap.size ≤ k) ∧ Aside0 (Mx w' w.heap.size gn F A1 k1 Af cf Am cm s) ∧ Aside0 (Sl k48 48 w' w1.heap.size (fun k => w1.heap.size ≤ k ∧ k < w2.heap.size) Aw cw lw) ∧ Aside0 (Below w.heap.size w w') ∧ Aside0 (w2.heap.size ≤ w'.heap.size))
 case atStart => exact ⟨0, st0 l, fun k => k = gn, none, 0, none, 0, by omega, rfl, rfl, ⟨⟨Int.le_refl _, by show (0 : Int) ≤ _; omega⟩⟩, HRD0, ⟨fun k h => Or.inl h⟩, HM, HW, HB, HSZ3⟩
 case round =>
  obtain ⟨i, s, F, Af, cf, Am, cm, hkq, rfl, rfl, HIL, HRD, HGF, HM, HW, HB, HSW⟩ := hrel
  have t2 : decide ((i : Int) ≤ (l.length : Int) + 1) = true := decide_eq_true (by have := HIL.out; omega)
  go_upto_if 74 with fail
  go_cut [14] from 64 to 189 (fun v14 wc => ∃ n : Int, v14 = .int .i64 n ∧ 1 ≤ n ∧ n ≤ 8 ∧ wc = wr)
  case first =>
   by_cases hlt : i < steps.length
   ·
    have t3 : decide ((i : Int) < (steps.length : Int)) = true := decide_eq_true (by omega)
    obtain ⟨ad, c0, hB, _, hK, hc0⟩ := Kd.C_get (Kd.C_below HST.out HB.out) 0 (i : Int) (by omega) (by omega)
    subst hB
    have hcell : wr.cell? (ad.add i) = some (.int .i64 (rd steps (i : Int))) := by have h := Kd.foot_int (Kd.C_below HST.out HB.out) (i : Int) (by omega) (by omega); rwa [Int.toNat_natCast] at h
    clear hK hc0
    generalize rd steps (i : Int) = x at hcell
    obtain ⟨b0, b1⟩ := and7 x
    obtain ⟨y, hy⟩ : ∃ y, Go.bits .and .i64 x 7 = y := ⟨_, rfl⟩
    rw [hy] at b0 b1
    have hw1 : wrap64 (1 + y) = 1 + y := L.w64 (by omega) (by omega)
    have hw2 : IntKind.i64.wrap (1 + y) = 1 + y := by rw [i64_w]; exact hw1
    go_wp2
    go_meet
    case rel => exact ⟨1 + y, rfl, by omega, by omega, rfl⟩
   ·
    have t3 : decide ((i : Int) < (steps.length : Int)) = false := decide_eq_false (by omega)
    go_wp2
    go_meet
    case rel => exact ⟨1, rfl, by omega, by omega, rfl⟩
  case rest =>
   obtain ⟨n, rfl, hn1, hn8, rfl⟩ := hcut
   have HNN := Aside0.mk (And.intro hn1 hn8)
   clear hn1 hn8;have hrd := HRD.out.one HG.out HGM.out n HNN.out.1
   obtain ⟨⟨⟨d, en, fa⟩, er, s'⟩, hr⟩ : ∃ r, stepM fixF s n = r := ⟨_, rfl⟩
   rw [hr] at hrd
   simp only at hrd
   obtain ⟨rfl, hcode, hinv, hfl, hmk, hloc, hen, hgo, hend⟩ := hrd
   have HRS := Aside0.mk hr;have HI := Aside0.mk hinv;have HC := Aside0.mk hcode;have HFL := Aside0.mk hfl;have HMKS := Aside0.mk hmk;have HLOC := Aside0.mk hloc;have HEN := Aside0.mk hen;have HGO := Aside0.mk hgo;have HEND := Aside0.mk hend;clear hr hcode hinv hfl hmk hloc hen hgo hend
   go_upto_region 14 with (go_at_call 19; (with_reducible refine (copy_ok HM.out HRD.out.inv).mono ?_); rintro e w5 ⟨gc, Ac1, cc1, Ac2, cc2, rfl, hb, hx⟩; have HMC := Aside0.mk hx; have HZ1 := Aside0.mk hb.size; have HFB := Aside0.mk (fun k hk => (HM.out.hF k hk).2); replace HM := Aside0.mk (HM.out.below hb); replace HW := Aside0.mk (HW.out.below hb); replace HB := Aside0.mk (HB.out.trans (hb.mono HB.out.size)); clear hb hx)
   have hst := step_ok (fxs := fixF) HM.out (by rw [HRD.out.code]; exact HG.out) HRD.out.inv n (by have := HNN.out; omega)
   rw [HRS.out] at hst
   have HST1 := Aside0.mk hst;clear hst
   go_upto_region 15 with (go_at_call 16; (with_reducible refine (HST1.out).mono ?_); rintro e w6 ⟨he, hf, A2, n2, A3, n3, hm⟩; obtain rfl : e = .returned (.tuple #[.agg #[.int .i64 d, .bool en, .int .i64 fa], .int .i64 0]) := he; have HZ2 := Aside0.mk hf.size; replace HMC := Aside0.mk (HMC.out.other hf (fun k hk h2 => by have := HFB.out k h2; omega) (fun k hk => HM.out.hc k hk)); replace HW := Aside0.mk (HW.out.fr hf (fun k hk h2 => by have := HGF.out k h2; have := HGW.out; omega)); replace HB := Aside0.mk (HB.out.trans (hf.toBelow HM.out.base_le (fun k hk => (HM.out.hF k hk).1))); replace HM := Aside0.mk hm; clear hf hm)
   have HGF2 : Aside0 (∀ k, Gr F w5.heap.size w6.heap.size k → k = gn ∨ w2.heap.size ≤ k) := ⟨fun k hk => by
    rcases hk with hk | hk
    ·
     exact HGF.out k hk
    ·
     have := HSW.out; have := HZ1.out; omega⟩
   have HDIS : Aside0 (∀ k, Gr F w5.heap.size w6.heap.size k → ¬ (wc.heap.size ≤ k ∧ k < w5.heap.size)) := ⟨fun k hk h2 => by
    rcases hk with hk | hk
    ·
     have := HFB.out k hk; omega
    ·
     omega⟩
   have HFP : Aside0 (¬ (wc.heap.size ≤ w6.heap.size ∧ w6.heap.size < w5.heap.size)) := ⟨fun h => by have := HZ2.out; omega⟩
   have BP := Aside0.mk (blk_new w6 (.cells #[.int .i64 d, .bool en, .int .i64 fa] 43))
   replace HM := Aside0.mk (HM.out.alloc (.cells #[.int .i64 d, .bool en, .int .i64 fa] 43))
   replace HMC := Aside0.mk (HMC.out.alloc (.cells #[.int .i64 d, .bool en, .int .i64 fa] 43))
   replace HW := Aside0.mk (HW.out.below (below_alloc (Below.refl _ _) (.cells #[.int .i64 d, .bool en, .int .i64 fa] 43)))
   replace HB := Aside0.mk (below_alloc HB.out (.cells #[.int .i64 d, .bool en, .int .i64 fa] 43))
   have HZ3 : Aside0 (w6.heap.size ≤ (w6.alloc (.cells #[.int .i64 d, .bool en, .int .i64 fa] 43)).heap.size) := ⟨(below_alloc (Below.refl w6.heap.size w6) (.cells #[.int .i64 d, .bool en, .int .i64 fa] 43)).size⟩
   clear HGF HFB HST1
   generalize Gr F w5.heap.size w6.heap.size = F2 at HM HGF2 HDIS
   generalize hgp : w6.heap.size = gp at BP HFP HZ2 HZ3 ⊢
   generalize w6.alloc (.cells #[.int .i64 d, .bool en, .int .i64 fa] 43) = w7 at BP HM HMC HW HB HZ3 ⊢
   clear hgp
   have hst := step_ok (fxs := fixF) HMC.out (by rw [HRD.out.code]; exact HG.out) HRD.out.inv n (by have := HNN.out; omega)
   rw [HRS.out] at hst
   have HST2 := Aside0.mk hst;clear hst
   go_upto_region 16 with (go_at_call 16; (with_reducible refine (HST2.out).mono ?_); rintro e w8 ⟨he, hf, A4, n4, A5, n5, hm⟩; obtain rfl : e = .returned (.tuple #[.agg #[.int .i64 d, .bool en, .int .i64 fa], .int .i64 0]) := he; have HZ4 := Aside0.mk hf.size; replace HM := Aside0.mk (HM.out.other hf (fun k hk => HDIS.out k hk) (fun k hk => HMC.out.hc k hk)); replace BP := Aside0.mk (hf.blk BP.out HFP.out); replace HW := Aside0.mk (HW.out.fr hf (fun k hk h2 => by have := HSW.out; omega)); replace HB := Aside0.mk (HB.out.trans (hf.toBelow HMC.out.base_le (fun k hk => (HMC.out.hF k hk).1))); replace HMC := Aside0.mk hm; clear hf hm)
   have BQ := Aside0.mk (blk_new w8 (.cells #[.int .i64 d, .bool en, .int .i64 fa] 43))
   replace BP := Aside0.mk (blk_alloc BP.out (.cells #[.int .i64 d, .bool en, .int .i64 fa] 43))
   replace HM := Aside0.mk (HM.out.alloc (.cells #[.int .i64 d, .bool en, .int .i64 fa] 43))
   replace HMC := Aside0.mk (HMC.out.alloc (.cells #[.int .i64 d, .bool en, .int .i64 fa] 43))
   replace HW := Aside0.mk (HW.out.below (below_alloc (Below.refl _ _) (.cells #[.int .i64 d, .bool en, .int .i64 fa] 43)))
   replace HB := Aside0.mk (below_alloc HB.out (.cells #[.int .i64 d, .bool en, .int .i64 fa] 43))
   have HZ5 : Aside0 (w8.heap.size ≤ (w8.alloc (.cells #[.int .i64 d, .bool en, .int .i64 fa] 43)).heap.size) := ⟨(below_alloc (Below.refl w8.heap.size w8) (.cells #[.int .i64 d, .bool en, .int .i64 fa] 43)).size⟩
   clear HST2 HDIS HFP
   generalize Gr (fun k => wc.heap.size ≤ k ∧ k < w5.heap.size) w7.heap.size w8.heap.size = F3 at HMC
   generalize hgq : w8.heap.size = gq at BQ HZ4 HZ5 ⊢
   generalize w8.alloc (.cells #[.int .i64 d, .bool en, .int .i64 fa] 43) = w9 at BP BQ HM HMC HW HB HZ5 ⊢
   clear hgq
   have HSW9 : Aside0 (w2.heap.size ≤ w9.heap.size) := ⟨by have := HSW.out; have := HZ1.out; have := HZ2.out; have := HZ3.out; have := HZ4.out; have := HZ5.out; omega⟩
   clear HZ1 HZ2 HZ3 HZ4 HZ5 HSW
   go_upto_region 17 with (go_at_call 21; (with_reducible refine (size_ok HM.out).mono ?_); rintro e w' ⟨rfl, nk, rfl⟩)
   replace BP := Aside0.mk (blk_drewN BP.out nk)
   replace BQ := Aside0.mk (blk_drewN BQ.out nk)
   replace HM := Aside0.mk (HM.out.drewN nk)
   replace HMC := Aside0.mk (HMC.out.drewN nk)
   replace HW := Aside0.mk (HW.out.below (pw_below_drewN (Below.refl _ _) nk))
   replace HB := Aside0.mk (pw_below_drewN HB.out nk)
   replace HSW9 : Aside0 (w2.heap.size ≤ (w9.drewN nk).heap.size) := HSW9
   generalize w9.drewN nk = wa at BP BQ HM HMC HW HB HSW9 ⊢
   have t4 : decide ((s'.flows.length : Int) > 4096) = false := decide_eq_false (by have := HFL.out; omega)
   have t5 : decide ((s'.marks.length : Int) > M) = false := decide_eq_false (by have := HMKS.out; omega)
   obtain ⟨p0, p1, p2, y0, y1, y2⟩ := blk3 BP
   obtain ⟨q0, q1, q2, z0, z1, z2⟩ := blk3 BQ
   go_upto_region 19 with fail
   have hl0 := HI.out.loc
   rw [HC.out] at hl0
   have hl1 : s.loc + d = s'.loc := HLOC.out
   have hl2 : wrap64 s'.loc = s'.loc := L.w64 (by omega) (by have := HL.out; omega)
   have hl3 : IntKind.i64.wrap s'.loc = s'.loc := by rw [i64_w]; exact hl2
   have HL0 := Aside0.mk hl0;clear hl0
   cases en with
   | false =>
    have hi1 : wrap64 ((i : Int) + 1) = (i : Int) + 1 := cn3 HIL.out HL.out
    have hi2 : IntKind.i64.wrap ((i : Int) + 1) = (i : Int) + 1 := by rw [i64_w]; exact hi1
    have HG1 := Aside0.mk (HGO.out rfl)
    have HN1 := Aside0.mk (cn1 hkq HG1.out.2 HIL.out)
    have HN2 := Aside0.mk (cn2 HG1.out.2 HIL.out)
    have HN3 := Aside0.mk HG1.out.1;clear HGO HEND HRS HIL hkq HLOC HG1
    go_wp2_with fail
    go_roundg (gk - 1)
    case measure => exact HN1.out.2
    case rel => exact ⟨i + 1, s', F2, A2, n2, A3, n3, HN1.out.1, by go_num, rfl, HN2, HN3, HGF2, HM, HW, HB, HSW9⟩
   | true =>
    obtain ⟨hs1, hfa, hTl, hTb⟩ := HEND.out rfl
    have hwn := HWANT.out
    rw [← hs1] at hwn
    have hse : s'.ended = true := HEN.out.symm
    have hff : fa = fw := by
     have h := hwn
     unfold flowsT at h
     rw [hse, if_pos rfl] at h
     have h2 : s'.fault = T.fault := by rw [hs1]; rfl
     rw [hfa, ← h2]
     by_cases hf0 : s'.fault = 0
     ·
      rw [if_pos hf0] at h; injection h with _ h; rw [hf0]; exact h
     ·
      rw [if_neg hf0] at h; injection h with _ h
    have hTl' : fw = 0 → s'.loc = (l.length : Int) := fun h => by
     have h2 : s'.loc = T.loc := by rw [hs1]; rfl
     rw [h2]; exact hTl (by rw [← hfa, hff]; exact h)
    subst hff;have HSE := Aside0.mk hse;have HTL := Aside0.mk hTl';have hf1 := flows_ok HM.out HFL.out
    rw [hwn] at hf1
    have HF1 := Aside0.mk hf1;have HWN := Aside0.mk hwn;clear hs1 hfa hTl hTb hwn hse hTl' hf1
    have t6 : decide (s'.loc ≤ (l.length : Int)) = true := decide_eq_true HL0.out.2
    have t7 : (fa == fa) = true := beq_self_eq_true fa
    go_upto_region 22 with (go_at_call 17; (with_reducible refine (HF1.out).mono ?_); rintro e wb ⟨X1, cx1, rfl, hs, hb⟩; have HX1 := Aside0.mk hs; replace HM := Aside0.mk (HM.out.below hb); replace HMC := Aside0.mk (HMC.out.below hb); replace BP := Aside0.mk (blk_below BP.out hb); replace HW := Aside0.mk (HW.out.below hb); replace HB := Aside0.mk (HB.out.trans (hb.mono HB.out.size)); clear hs hb)
    clear p0 p1 p2 y0 y1 y2 q0 q1 q2 z0 z1 z2;have hf2 := flows_ok HMC.out HFL.out
    rw [HWN.out] at hf2
    have HF2 := Aside0.mk hf2;clear hf2 HF1
    go_upto_region 23 with (go_at_call 17; (with_reducible refine (HF2.out).mono ?_); rintro e wd ⟨X2, cx2, rfl, hs, hb⟩; have HX2 := Aside0.mk hs; replace HX1 := Aside0.mk (HX1.out.below hb); replace HM := Aside0.mk (HM.out.below hb); replace BP := Aside0.mk (blk_below BP.out hb); replace HW := Aside0.mk (HW.out.below hb); replace HB := Aside0.mk (HB.out.trans (hb.mono HB.out.size)); clear hs hb)
    clear HF2 HMC
    go_upto_region 24 with (go_at_call 16; (with_reducible refine (step_none HM.out 1 190 (Or.inl ⟨HSE.out, rfl⟩)).mono ?_); rintro e we ⟨rfl, hb⟩; replace HW := Aside0.mk (HW.out.below hb); replace HX1 := Aside0.mk (HX1.out.below hb); replace HX2 := Aside0.mk (HX2.out.below hb); replace HB := Aside0.mk (HB.out.trans (hb.mono HB.out.size)); replace BP := Aside0.mk (blk_below BP.out hb); clear hb)
    have BPN := Aside0.mk (blk_alloc BP.out (.cells #[.int .i64 0, .bool false, .int .i64 0] 43))
    have hb := below_alloc (Below.refl we.heap.size we) (.cells #[.int .i64 0, .bool false, .int .i64 0] 43)
    replace HW := Aside0.mk (HW.out.below hb); replace HX1 := Aside0.mk (HX1.out.below hb); replace HX2 := Aside0.mk (HX2.out.below hb); replace HB := Aside0.mk (HB.out.trans (hb.mono HB.out.size))
    clear BP hb
    generalize we.alloc (.cells #[.int .i64 0, .bool false, .int .i64 0] 43) = wf at BPN HW HX1 HX2 HB ⊢
    obtain ⟨p0, p1, p2, y0, y1, y2⟩ := blk3 BPN
    by_cases hf0 : fa = 0
    ·
     have t8 : (fa != 0) = false := by rw [hf0]; rfl
     have t9 : (s'.loc == (l.length : Int)) = true := beq_iff_eq.2 (HTL.out hf0)
     clear hf0
     go_wp2_with (first | (go_at_call 25; (with_reducible refine (of_c lw _ _ _ HW.out.C HWL.out HW.out.le).mono ?_); rintro e wx ⟨v, rfl, ho, hb⟩; obtain ⟨Ao, co, hv, ho2⟩ := Sl.of_R ho; rw [List.length_map] at hv; subst hv; have hoc := ho2.C; rw [List.length_map] at hoc; have HO := Aside0.mk hoc; replace HW := Aside0.mk (HW.out.below hb); replace HX1 := Aside0.mk (HX1.out.below hb); replace HX2 := Aside0.mk (HX2.out.below hb); replace HB := Aside0.mk (HB.out.trans (hb.mono HB.out.size)); clear ho ho2 hoc hb) | (go_at_call 13; (with_reducible first | refine (same_c lw _ _ _ _ _ HX1.out.C HO.out HWL.out).mono ?_ | refine (same_c lw _ _ _ _ _ HX2.out.C HO.out HWL.out).mono ?_); rintro e wy ⟨rfl, hb⟩; replace HW := Aside0.mk (HW.out.below hb); replace HX1 := Aside0.mk (HX1.out.below hb); replace HX2 := Aside0.mk (HX2.out.below hb); replace HB := Aside0.mk (HB.out.trans (hb.mono HB.out.size)); clear HO hb) | (go_at_call 9; (with_reducible refine (awake_c _ (HK.out.below HB.out)).mono ?_); rintro e wz ⟨rfl, hb⟩; replace HW := Aside0.mk (HW.out.below hb); replace HX1 := Aside0.mk (HX1.out.below hb); replace HX2 := Aside0.mk (HX2.out.below hb); replace HB := Aside0.mk (HB.out.trans (hb.mono HB.out.size)); clear hb))
     go_ret
     exact ⟨rfl, HB.out⟩
    ·
     have t8 : (fa != 0) = true := bne_iff_ne.2 hf0
     clear hf0
     go_wp2_with (first | (go_at_call 25; (with_reducible refine (of_c lw _ _ _ HW.out.C HWL.out HW.out.le).mono ?_); rintro e wx ⟨v, rfl, ho, hb⟩; obtain ⟨Ao, co, hv, ho2⟩ := Sl.of_R ho; rw [List.length_map] at hv; subst hv; have hoc := ho2.C; rw [List.length_map] at hoc; have HO := Aside0.mk hoc; replace HW := Aside0.mk (HW.out.below hb); replace HX1 := Aside0.mk (HX1.out.below hb); replace HX2 := Aside0.mk (HX2.out.below hb); replace HB := Aside0.mk (HB.out.trans (hb.mono HB.out.size)); clear ho ho2 hoc hb) | (go_at_call 13; (with_reducible first | refine (same_c lw _ _ _ _ _ HX1.out.C HO.out HWL.out).mono ?_ | refine (same_c lw _ _ _ _ _ HX2.out.C HO.out HWL.out).mono ?_); rintro e wy ⟨rfl, hb⟩; replace HW := Aside0.mk (HW.out.below hb); replace HX1 := Aside0.mk (HX1.out.below hb); replace HX2 := Aside0.mk (HX2.out.below hb); replace HB := Aside0.mk (HB.out.trans (hb.mono HB.out.size)); clear HO hb) | (go_at_call 9; (with_reducible refine (awake_c _ (HK.out.below HB.out)).mono ?_); rintro e wz ⟨rfl, hb⟩; replace HW := Aside0.mk (HW.out.below hb); replace HX1 := Aside0.mk (HX1.out.below hb); replace HX2 := Aside0.mk (HX2.out.below hb); replace HB := Aside0.mk (HB.out.trans (hb.mono HB.out.size)); clear hb))
     go_ret
     exact ⟨rfl, HB.out⟩
theorem cuts_all (hk : KT w) (hr : Kd.C k37 w A l.length l) (hs : Kd.C (Kd.int .i64) w B steps.length steps) (hsl : (steps.length : Int) ≤ 9223372036854775807) : Calls Tryz.prog 6 #[.slice A l.length c, .slice B steps.length cb] w fun e w' => e = .returned (.bool true) ∧ Below w.heap.size w w' := by
 by_cases he : (chk l).1 = 0
 ·
  by_cases hl : 100 < l.length
  ·
   exact cuts_long l steps A B c cb w hk hr he hl
  ·
   exact cuts_ok l steps A B c cb w hk hr hs hsl he (by omega)
 ·
  exact cuts_bad l steps A B c cb w hk hr he
end
end Go.Proofs.YtkabcgmegljebaaGreatDoor.H
