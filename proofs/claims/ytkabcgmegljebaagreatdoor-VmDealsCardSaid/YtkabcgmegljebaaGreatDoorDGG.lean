/- Contracts and facts of functions of the program, joined in one text. -/
import Derived.Test.YtkabcgmegljebaaGreatDoorDGF
set_option maxHeartbeats 8000000
set_option maxRecDepth 100000
set_option linter.unusedVariables false
set_option linter.unusedSimpArgs false
namespace Go.Proofs.YtkabcgmegljebaaGreatDoor.H
open Go.RowKit Go.Proofs.YtkabcgmegljebaaGreatDoorW.PrintWords Go.Proofs.YtkabcgmegljebaaGreatDoorW.PrintLast Go.Proofs.YtkabcgmegljebaaGreatDoorW.PrintMore
open Go.Proofs.YtkabcgmegljebaaGreatDoor.Q
theorem S1_ {w : World} {b j : Nat} {l : List Int} {v : Int} (h : IB w b l) (hj : j < l.length) (hv : l.getD j 0 = v) : w.cell? ⟨b, j, none⟩ = some (.int .i64 v) := by
  rw [h.cell j hj, ← hv, List.getD_eq_getElem?_getD, List.getElem?_eq_getElem hj]; rfl
theorem fits0 (k a b : Int) (x3 x4 : Nat) (x5 x6 x7 x8 x9 x10 : Int) (i n : Nat) (first deep : List Int) (bf bd : Nat) (w : World) (h1 : IB w bf first) (h2 : IB w bd deep) (hne : bf ≠ bd) (hr : Rows2 n i first deep) (hi : i < n) (hn : n ≤ 1024) (hk : partsP k = 0) : Calls Tryz.prog 70 #[.agg #[.int .i64 k, .int .i64 a, .int .i64 b, .float .f64 x3, .float .f64 x4, .int .i64 x5, .int .i64 x6, .int .i64 x7, .int .i64 x8, .int .i64 x9, .int .i64 x10], .int .i64 (i : Int), .slice (some ⟨bf, 0, none⟩) n n, .slice (some ⟨bd, 0, none⟩) n n] w fun e w' => e = .returned (.bool (fitsP k a b i first deep).1) ∧ Fr (fun k => k = bf ∨ k = bd) w w' ∧ IB w' bf (fitsP k a b i first deep).2.1 ∧ IB w' bd (fitsP k a b i first deep).2.2 := by
 have e : fitsP k a b i first deep = (a == 0 && b == 0, first, deep) := by unfold fitsP; rw [if_pos hk]
 rw [e]
 have H1 := Aside0.mk h1;have H2 := Aside0.mk h2;have HK := Aside0.mk hk;clear h1 h2 hne hr hi hn e hk
 have B4 := Aside0.mk (xbB w (.cells #[.int .i64 k, .int .i64 a, .int .i64 b, .float .f64 x3, .float .f64 x4, .int .i64 x5, .int .i64 x6, .int .i64 x7, .int .i64 x8, .int .i64 x9, .int .i64 x10] 103))
 have HB := Aside0.mk (xaC (Below.refl w.heap.size w) (.cells #[.int .i64 k, .int .i64 a, .int .i64 b, .float .f64 x3, .float .f64 x4, .int .i64 x5, .int .i64 x6, .int .i64 x7, .int .i64 x8, .int .i64 x9, .int .i64 x10] 103))
 obtain ⟨⟨c0, c1, c2, c3, c4, c5, c6, c7, c8, c9, c10⟩, z_⟩ := blk11 B4
 clear c3 c4 c5 c6 c7 c8 c9 c10 z_
 by_cases ha : (a == 0) = true
 ·
  go_enter Tryz.func70, Tryz.ntmps70
  go_wp2_with (first | (go_at_call 47; (with_reducible refine (xdL _ _).mono ?_); rintro e w' ⟨rfl, hw_⟩; obtain rfl := hw_.symm; rw [HK.out]))
  go_ret
  exact ⟨by simp [ha], (Fr.refl _ w).below HB.out, H1.out.below HB.out, H2.out.below HB.out⟩
 ·
  replace ha := Bool.eq_false_iff.2 ha
  go_enter Tryz.func70, Tryz.ntmps70
  go_wp2_with (first | (go_at_call 47; (with_reducible refine (xdL _ _).mono ?_); rintro e w' ⟨rfl, hw_⟩; obtain rfl := hw_.symm; rw [HK.out]))
  go_ret
  exact ⟨by simp [ha], (Fr.refl _ w).below HB.out, H1.out.below HB.out, H2.out.below HB.out⟩
theorem fits1 (k a b : Int) (x3 x4 : Nat) (x5 x6 x7 x8 x9 x10 : Int) (i n : Nat) (first deep : List Int) (bf bd : Nat) (w : World) (h1 : IB w bf first) (h2 : IB w bd deep) (hne : bf ≠ bd) (hr : Rows2 n i first deep) (hi : i < n) (hn : n ≤ 1024) (hk : partsP k = 1) : Calls Tryz.prog 70 #[.agg #[.int .i64 k, .int .i64 a, .int .i64 b, .float .f64 x3, .float .f64 x4, .int .i64 x5, .int .i64 x6, .int .i64 x7, .int .i64 x8, .int .i64 x9, .int .i64 x10], .int .i64 (i : Int), .slice (some ⟨bf, 0, none⟩) n n, .slice (some ⟨bd, 0, none⟩) n n] w fun e w' => e = .returned (.bool (fitsP k a b i first deep).1) ∧ Fr (fun k => k = bf ∨ k = bd) w w' ∧ IB w' bf (fitsP k a b i first deep).2.1 ∧ IB w' bd (fitsP k a b i first deep).2.2 := by
 have e : fitsP k a b i first deep = (if i = 0 ∨ a ≠ (i : Int) - 1 ∨ b ≠ 0 then (false, first, deep) else (true, first.set i (rdI first ((i : Int) - 1)), deep.set i (rdI deep ((i : Int) - 1) + 1))) := by unfold fitsP; rw [if_neg (by omega), if_pos hk]
 rw [e]
 have H1 := Aside0.mk h1;have H2 := Aside0.mk h2;have HK := Aside0.mk hk;have HR := Aside0.mk hr;have HNE := Aside0.mk hne
 have HI := Aside0.mk (And.intro hi hn)
 clear h1 h2 e hk hr hne
 have hwr : IntKind.i64.wrap ((i : Int) - 1) = (i : Int) - 1 := by rw [i64_w]; unfold wrap64; omega
 have B4 := Aside0.mk (xbB w (.cells #[.int .i64 k, .int .i64 a, .int .i64 b, .float .f64 x3, .float .f64 x4, .int .i64 x5, .int .i64 x6, .int .i64 x7, .int .i64 x8, .int .i64 x9, .int .i64 x10] 103))
 have HB := Aside0.mk (xaC (Below.refl w.heap.size w) (.cells #[.int .i64 k, .int .i64 a, .int .i64 b, .float .f64 x3, .float .f64 x4, .int .i64 x5, .int .i64 x6, .int .i64 x7, .int .i64 x8, .int .i64 x9, .int .i64 x10] 103))
 obtain ⟨⟨c0, c1, c2, c3, c4, c5, c6, c7, c8, c9, c10⟩, z_⟩ := blk11 B4
 clear c3 c4 c5 c6 c7 c8 c9 c10 z_
 by_cases q0 : i = 0
 ·
  subst q0
  rw [if_pos (Or.inl rfl)]
  go_enter Tryz.func70, Tryz.ntmps70
  go_wp2_with (first | (go_at_call 47; (with_reducible refine (xdL _ _).mono ?_); rintro e w' ⟨rfl, hw_⟩; obtain rfl := hw_.symm; rw [HK.out]))
  go_ret
  exact ⟨rfl, (Fr.refl _ w).below HB.out, H1.out.below HB.out, H2.out.below HB.out⟩
 have t0 : ((i : Int) == 0) = false := by rw [beq_eq_false_iff_ne]; omega
 by_cases q1 : a = (i : Int) - 1
 rotate_left
 ·
  have t1 : (a != (i : Int) - 1) = true := by rw [bne, beq_eq_false_iff_ne.2 q1]; rfl
  rw [if_pos (Or.inr (Or.inl q1))]
  go_enter Tryz.func70, Tryz.ntmps70
  go_wp2_with (first | (go_at_call 47; (with_reducible refine (xdL _ _).mono ?_); rintro e w' ⟨rfl, hw_⟩; obtain rfl := hw_.symm; rw [HK.out]))
  go_ret
  exact ⟨rfl, (Fr.refl _ w).below HB.out, H1.out.below HB.out, H2.out.below HB.out⟩
 subst q1
 by_cases q2 : b = 0
 rotate_left
 ·
  have t2 : (b != 0) = true := by rw [bne, beq_eq_false_iff_ne.2 q2]; rfl
  rw [if_pos (Or.inr (Or.inr q2))]
  go_enter Tryz.func70, Tryz.ntmps70
  go_wp2_with (first | (go_at_call 47; (with_reducible refine (xdL _ _).mono ?_); rintro e w' ⟨rfl, hw_⟩; obtain rfl := hw_.symm; rw [HK.out]))
  go_ret
  exact ⟨rfl, (Fr.refl _ w).below HB.out, H1.out.below HB.out, H2.out.below HB.out⟩
 subst q2
 rw [if_neg (by rintro (h | h | h); exact q0 h; exact h rfl; exact h rfl)]
 go_enter Tryz.func70, Tryz.ntmps70
 go_wp2_with (first | (go_at_call 47; (with_reducible refine (xdL _ _).mono ?_); rintro e w' ⟨rfl, hw_⟩; obtain rfl := hw_.symm; rw [HK.out]))
 clear c0 c1 c2 t0
 replace H1 := Aside0.mk (H1.out.below HB.out)
 replace H2 := Aside0.mk (H2.out.below HB.out)
 generalize w.alloc (.cells #[.int .i64 k, .int .i64 ((i : Int) - 1), .int .i64 0, .float .f64 x3, .float .f64 x4, .int .i64 x5, .int .i64 x6, .int .i64 x7, .int .i64 x8, .int .i64 x9, .int .i64 x10] 103) = w1 at *
 have HF := HR.out.lf;have HD := HR.out.ld
 have hf0 := H1.out.rd ((i : Int) - 1) (by omega) (by omega)
 have hd0 := H2.out.rd ((i : Int) - 1) (by omega) (by omega)
 have hdb : 0 ≤ rdI deep ((i : Int) - 1) ∧ rdI deep ((i : Int) - 1) ≤ 2000 := by have h3 := HR.out.d ((i : Int) - 1).toNat (by omega); unfold rdI; omega
 generalize hfv : rdI first ((i : Int) - 1) = fv at *
 generalize hdv : rdI deep ((i : Int) - 1) = dv at *
 have HFV := Aside0.mk hfv;have HDV := Aside0.mk hdv;clear hfv hdv
 have hwd : IntKind.i64.wrap (dv + 1) = dv + 1 := by rw [i64_w]; unfold wrap64; omega
 have g1 : 0 ≤ (i : Int) - 1 := by omega
 have g2 : (i : Int) - 1 < n := by omega
 have g3 : (i : Int) < n := by omega
 have g4 : (1 : Int) ≤ (i : Int) := by omega
 have hti : ((i : Int) - 1).toNat = i - 1 := by omega
 rw [hti] at hf0 hd0
 clear hti
 refine xdP ?_
 refine start_ (n := 19) (S := fun w' => w'.cell? ⟨bf, i - 1, none⟩ = some (.int .i64 fv) ∧ w'.cell? ⟨bd, i - 1, none⟩ = some (.int .i64 dv)) (ds := []) #[false, false, false, false, false, false, false, false, false, false, false, false, false, false, false, false, false, false, false] (by kernel_rfl) rfl rfl ⟨hf0, hd0⟩ (fun hHeld => ?_)
 replace H1 : Aside0 (IB w1.drew bf first) := ⟨xaF H1.out⟩
 replace H2 : Aside0 (IB w1.drew bd deep) := ⟨xaF H2.out⟩
 replace HB := Aside0.mk (xaM HB.out)
 generalize w1.drew = w2 at *
 refine rP 0 ?_
 refine rP 1 ?_
 refine rP 2 ?_
 refine rP 3 ?_
 refine rP 4 ?_
 refine rP 5 ?_
 refine rP 6 ?_
 refine rP 7 ?_
 refine rT 8 ?_
 refine rP 9 ?_
 refine rP 10 ?_
 refine rP 11 ?_
 refine rP 12 ?_
 refine rT 13 ?_
 refine rP 14 ?_
 clear hHeld
 have hsi : ∀ (l : List Int) (v : Int), (i - 1 < l.length) → (l.set i v).getD (i - 1) 0 = l.getD (i - 1) 0 := fun l v hl => by simp [List.getD_eq_getElem?_getD, List.getElem?_set, show i ≠ i - 1 by omega]
 have hfg : first.getD (i - 1) 0 = fv := by have h3 := HFV.out; unfold rdI at h3; rw [show ((i : Int) - 1).toNat = i - 1 by omega] at h3; exact h3
 have hdg : deep.getD (i - 1) 0 = dv := by have h3 := HDV.out; unfold rdI at h3; rw [show ((i : Int) - 1).toNat = i - 1 by omega] at h3; exact h3
 have HFG := Aside0.mk hfg;have HDG := Aside0.mk hdg;have HSI := Aside0.mk hsi;clear hfg hdg hsi
 refine rP 15 ?_
 have s0 := H1.out.cell i (by omega)
 have s1 := H1.out.frozen i
 refine rO 16 (fun K hK => ?_)
 refine skip_ (w1 := ?_) (by rfl) rfl ?_ ?_
 rotate_left
 ·
  go_simp
  rfl
 have K1 := Aside0.mk (H1.out.put i fv)
 have K2 : Aside0 (IB (w2.setCell ⟨bf, i, none⟩ (.int .i64 fv)) bd deep) := ⟨H2.out.other (fun e => HNE.out e.symm) i (.int .i64 fv)⟩
 refine hK.out _ _ (⟨S1_ K1.out (by first | omega | (simp; omega)) (by first | (rw [HSI.out _ _ (by omega)]; exact HFG.out) | exact HFG.out), S1_ K2.out (by first | omega | (simp; omega)) (by first | (rw [HSI.out _ _ (by omega)]; exact HDG.out) | exact HDG.out)⟩) (fun hHeld => ?_)
 clear hK K s0 s1 hHeld
 refine rP 17 ?_
 have s0 := K2.out.cell i (by omega)
 have s1 := K2.out.frozen i
 refine rO 18 (fun K hK => ?_)
 refine skip_ (w1 := ?_) (by rfl) rfl ?_ ?_
 rotate_left
 ·
  go_simp
  rfl
 have J2 := Aside0.mk (K2.out.put i (dv + 1))
 have J1 := Aside0.mk (K1.out.other HNE.out i (.int .i64 (dv + 1)))
 refine hK.out _ _ (⟨S1_ J1.out (by first | omega | (simp; omega)) (by first | (rw [HSI.out _ _ (by omega)]; exact HFG.out) | exact HFG.out), S1_ J2.out (by first | omega | (simp; omega)) (by first | (rw [HSI.out _ _ (by omega)]; exact HDG.out) | exact HDG.out)⟩) (fun hHeld => ?_)
 clear hK K s0 s1 hHeld
 refine rD ?_
 go_wp2_with fail
 go_ret
 exact ⟨rfl, (((Fr.refl (fun k => k = bf ∨ k = bd) w).below HB.out).set _ (Or.inl (Or.inl rfl))).set _ (Or.inl (Or.inr rfl)), by rw [HFV.out]; exact J1.out, by rw [HDV.out]; exact J2.out⟩
theorem fits2 (k a b : Int) (x3 x4 : Nat) (x5 x6 x7 x8 x9 x10 : Int) (i n : Nat) (first deep : List Int) (bf bd : Nat) (w : World) (h1 : IB w bf first) (h2 : IB w bd deep) (hne : bf ≠ bd) (hr : Rows2 n i first deep) (hi : i < n) (hn : n ≤ 1024) (hk : partsP k = 2) : Calls Tryz.prog 70 #[.agg #[.int .i64 k, .int .i64 a, .int .i64 b, .float .f64 x3, .float .f64 x4, .int .i64 x5, .int .i64 x6, .int .i64 x7, .int .i64 x8, .int .i64 x9, .int .i64 x10], .int .i64 (i : Int), .slice (some ⟨bf, 0, none⟩) n n, .slice (some ⟨bd, 0, none⟩) n n] w fun e w' => e = .returned (.bool (fitsP k a b i first deep).1) ∧ Fr (fun k => k = bf ∨ k = bd) w w' ∧ IB w' bf (fitsP k a b i first deep).2.1 ∧ IB w' bd (fitsP k a b i first deep).2.2 := by
 have e : fitsP k a b i first deep = (if i = 0 ∨ b ≠ (i : Int) - 1 ∨ rdI first ((i : Int) - 1) = 0 ∨ a ≠ rdI first ((i : Int) - 1) - 1 then (false, first, deep) else (true, first.set i (rdI first a), deep.set i (max (rdI deep a) (rdI deep b) + 1))) := by unfold fitsP; rw [if_neg (by omega), if_neg (by omega)]
 rw [e]
 have H1 := Aside0.mk h1;have H2 := Aside0.mk h2;have HK := Aside0.mk hk;have HR := Aside0.mk hr;have HNE := Aside0.mk hne
 have HI := Aside0.mk (And.intro hi hn)
 clear h1 h2 e hk hr hne
 have hwr : IntKind.i64.wrap ((i : Int) - 1) = (i : Int) - 1 := by rw [i64_w]; unfold wrap64; omega
 have B4 := Aside0.mk (xbB w (.cells #[.int .i64 k, .int .i64 a, .int .i64 b, .float .f64 x3, .float .f64 x4, .int .i64 x5, .int .i64 x6, .int .i64 x7, .int .i64 x8, .int .i64 x9, .int .i64 x10] 103))
 have HB := Aside0.mk (xaC (Below.refl w.heap.size w) (.cells #[.int .i64 k, .int .i64 a, .int .i64 b, .float .f64 x3, .float .f64 x4, .int .i64 x5, .int .i64 x6, .int .i64 x7, .int .i64 x8, .int .i64 x9, .int .i64 x10] 103))
 obtain ⟨⟨c0, c1, c2, c3, c4, c5, c6, c7, c8, c9, c10⟩, z_⟩ := blk11 B4
 clear c3 c4 c5 c6 c7 c8 c9 c10 z_
 by_cases q0 : i = 0
 ·
  subst q0
  rw [if_pos (Or.inl rfl)]
  go_enter Tryz.func70, Tryz.ntmps70
  go_wp2_with (first | (go_at_call 47; (with_reducible refine (xdL _ _).mono ?_); rintro e w' ⟨rfl, hw_⟩; obtain rfl := hw_.symm; rw [HK.out]))
  go_quiet (fail)
  go_wp2_with fail
  go_ret
  exact ⟨rfl, (Fr.refl _ w).below (xaJ HB.out _), (H1.out.below HB.out).below (xaJ (Below.refl _ _) _), (H2.out.below HB.out).below (xaJ (Below.refl _ _) _)⟩
 have t0 : ((i : Int) == 0) = false := by rw [beq_eq_false_iff_ne]; omega
 by_cases q1 : b = (i : Int) - 1
 rotate_left
 ·
  have t1 : (b != (i : Int) - 1) = true := by rw [bne, beq_eq_false_iff_ne.2 q1]; rfl
  rw [if_pos (Or.inr (Or.inl q1))]
  go_enter Tryz.func70, Tryz.ntmps70
  go_wp2_with (first | (go_at_call 47; (with_reducible refine (xdL _ _).mono ?_); rintro e w' ⟨rfl, hw_⟩; obtain rfl := hw_.symm; rw [HK.out]))
  go_quiet (fail)
  go_wp2_with fail
  go_ret
  exact ⟨rfl, (Fr.refl _ w).below (xaJ HB.out _), (H1.out.below HB.out).below (xaJ (Below.refl _ _) _), (H2.out.below HB.out).below (xaJ (Below.refl _ _) _)⟩
 have t1 : (b != (i : Int) - 1) = false := by rw [bne, beq_iff_eq.2 q1]; rfl
 have HQ1 := Aside0.mk q1;have HF := HR.out.lf;have HD := HR.out.ld
 have hfb : 0 ≤ rdI first ((i : Int) - 1) ∧ rdI first ((i : Int) - 1) ≤ (i : Int) - 1 := by have h3 := HR.out.f ((i : Int) - 1).toNat (by omega); unfold rdI; omega
 have hf0 := (H1.out.below HB.out).rd ((i : Int) - 1) (by omega) (by omega)
 have hti : ((i : Int) - 1).toNat = i - 1 := by omega
 rw [hti] at hf0
 clear hti
 obtain ⟨fv, hfv⟩ : ∃ v, v = rdI first ((i : Int) - 1) := ⟨_, rfl⟩
 rw [← hfv] at hf0 hfb ⊢
 have HFV := Aside0.mk hfv
 have g4 : (1 : Int) ≤ (i : Int) := by omega
 have g3 : (i : Int) < n := by omega
 have g2 : (i : Int) - 1 < n := by omega
 have g1 : (0 : Int) ≤ (i : Int) - 1 := by omega
 have hwf : IntKind.i64.wrap (fv - 1) = fv - 1 := by rw [i64_w]; unfold wrap64; omega
 clear q1 hfv
 by_cases q2 : fv = 0
 ·
  have t2 : (fv == 0) = true := beq_iff_eq.2 q2
  have HQ2 := Aside0.mk q2;clear q2
  rw [if_pos (Or.inr (Or.inr (Or.inl HQ2.out)))]
  go_enter Tryz.func70, Tryz.ntmps70
  go_wp2_with (first | (go_at_call 47; (with_reducible refine (xdL _ _).mono ?_); rintro e w' ⟨rfl, hw_⟩; obtain rfl := hw_.symm; rw [HK.out]))
  go_quiet (fail)
  go_wp2_with fail
  go_ret
  exact ⟨rfl, (Fr.refl _ w).below (xaJ HB.out _), (H1.out.below HB.out).below (xaJ (Below.refl _ _) _), (H2.out.below HB.out).below (xaJ (Below.refl _ _) _)⟩
 have t2 : (fv == 0) = false := by rw [beq_eq_false_iff_ne]; exact q2
 by_cases q3 : a = fv - 1
 rotate_left
 ·
  have t3 : (a != fv - 1) = true := by rw [bne, beq_eq_false_iff_ne.2 q3]; rfl
  rw [if_pos (Or.inr (Or.inr (Or.inr q3)))]
  go_enter Tryz.func70, Tryz.ntmps70
  go_wp2_with (first | (go_at_call 47; (with_reducible refine (xdL _ _).mono ?_); rintro e w' ⟨rfl, hw_⟩; obtain rfl := hw_.symm; rw [HK.out]))
  go_quiet (fail)
  go_wp2_with fail
  go_ret
  exact ⟨rfl, (Fr.refl _ w).below (xaJ HB.out _), (H1.out.below HB.out).below (xaJ (Below.refl _ _) _), (H2.out.below HB.out).below (xaJ (Below.refl _ _) _)⟩
 have t3 : (a != fv - 1) = false := by rw [bne, beq_iff_eq.2 q3]; rfl
 have HQ3 := Aside0.mk q3
 have ha0 : 0 ≤ a := by omega
 have ha1 : a < n := by omega
 have hai : a < (i : Int) := by omega
 have hb0 : 0 ≤ b := by have := HQ1.out; omega
 have hb1 : b < n := by have := HQ1.out; omega
 have hbi : b < (i : Int) := by have := HQ1.out; omega
 rw [if_neg (by rintro (h | h | h | h); exact q0 h; exact h HQ1.out; exact q2 h; exact h HQ3.out)]
 clear q3 q2
 go_enter Tryz.func70, Tryz.ntmps70
 go_wp2_with (first | (go_at_call 47; (with_reducible refine (xdL _ _).mono ?_); rintro e w' ⟨rfl, hw_⟩; obtain rfl := hw_.symm; rw [HK.out]))
 go_quiet (fail)
 go_wp2_with fail
 have hba := HR.out.d a.toNat (by omega)
 have hbb := HR.out.d b.toNat (by omega)
 have f0 := (H1.out.below HB.out).rd a (by omega) (by omega)
 have f1 := (H2.out.below HB.out).rd a (by omega) (by omega)
 have f2 := (H2.out.below HB.out).rd b (by omega) (by omega)
 clear t0 t1 t2 t3 hf0 g1 g2 g4 hwf hwr
 replace HB := Aside0.mk (xaJ HB.out nq)
 have hzz : bf < w.heap.size ∧ bd < w.heap.size := ⟨H1.out.lt, H2.out.lt⟩
 replace H1 := Aside0.mk (H1.out.below HB.out)
 replace H2 := Aside0.mk (H2.out.below HB.out)
 obtain ⟨b4, hb4⟩ : ∃ q, q = w.heap.size := ⟨_, rfl⟩
 have HB4 : Aside0 (bf ≠ b4 ∧ bd ≠ b4) := ⟨by omega⟩
 rw [← hb4] at c0 c1 c2 B4 ⊢
 clear hb4 hzz
 replace B4 := Aside0.mk (xaH B4.out nq)
 generalize (w.alloc (.cells #[.int .i64 k, .int .i64 a, .int .i64 b, .float .f64 x3, .float .f64 x4, .int .i64 x5, .int .i64 x6, .int .i64 x7, .int .i64 x8, .int .i64 x9, .int .i64 x10] 103)).drewN nq = w1 at *
 obtain ⟨fa, hfa⟩ : ∃ v, v = rdI first a := ⟨_, rfl⟩
 obtain ⟨da, hda⟩ : ∃ v, v = rdI deep a := ⟨_, rfl⟩
 obtain ⟨db, hdb⟩ : ∃ v, v = rdI deep b := ⟨_, rfl⟩
 have hmb : 0 ≤ max da db ∧ max da db ≤ 2000 := by have e1 : rdI deep a = deep.getD a.toNat 0 := rfl; have e2 : rdI deep b = deep.getD b.toNat 0 := rfl; omega
 obtain ⟨mx, hmx⟩ : ∃ v, v = max da db := ⟨_, rfl⟩
 rw [← hmx] at hmb
 have hwd : IntKind.i64.wrap (mx + 1) = mx + 1 := by rw [i64_w]; unfold wrap64; omega
 have hme : (if da < db then db else da) = mx := by rw [hmx, Int.max_def]; split <;> split <;> omega
 have HMX := Aside0.mk hmx;clear hmx;have HFA := Aside0.mk hfa;have HDA := Aside0.mk hda;have HDB := Aside0.mk hdb;have HBA := Aside0.mk hba;have HBB := Aside0.mk hbb;clear hfa hda hdb hba hbb
 refine xdP ?_
 have hA1 : first.getD a.toNat 0 = fa := HFA.out.symm
 have hA2 : deep.getD a.toNat 0 = da := HDA.out.symm
 have hA3 : deep.getD b.toNat 0 = db := HDB.out.symm
 have HA : Aside0 (first.getD a.toNat 0 = fa ∧ deep.getD a.toNat 0 = da ∧ deep.getD b.toNat 0 = db) := ⟨hA1, hA2, hA3⟩
 clear hA1 hA2 hA3
 have HSI : Aside0 (∀ (l : List Int) (v : Int) (z : Nat), z < i → (l.set i v).getD z 0 = l.getD z 0) := ⟨fun l v z hz => by simp [List.getD_eq_getElem?_getD, List.getElem?_set, show i ≠ z by omega]⟩
 refine start_ (n := 25) (S := fun w' => w'.cell? ⟨b4, 1, none⟩ = some (.int .i64 a) ∧ w'.cell? ⟨b4, 2, none⟩ = some (.int .i64 b) ∧ w'.cell? ⟨bf, a.toNat, none⟩ = some (.int .i64 fa) ∧ w'.cell? ⟨bd, a.toNat, none⟩ = some (.int .i64 da) ∧ w'.cell? ⟨bd, b.toNat, none⟩ = some (.int .i64 db)) (ds := []) #[false, false, false, false, false, false, false, false, false, false, false, false, false, false, false, false, false, false, false, false, false, false, false, false, false] (by kernel_rfl) rfl rfl ⟨(xaA B4.out 1).trans rfl, (xaA B4.out 2).trans rfl, S1_ H1.out (by omega) HA.out.1, S1_ H2.out (by omega) HA.out.2.1, S1_ H2.out (by omega) HA.out.2.2⟩ (fun hHeld => ?_)
 replace H1 : Aside0 (IB w1.drew bf first) := ⟨xaF H1.out⟩
 replace H2 : Aside0 (IB w1.drew bd deep) := ⟨xaF H2.out⟩
 replace HB := Aside0.mk (xaM HB.out)
 replace B4 := Aside0.mk (xaF B4.out)
 generalize w1.drew = w2 at *
 clear f0 f1 f2 c0 c1 c2
 refine rP 0 ?_
 refine rP 1 ?_
 refine rP 2 ?_
 refine rP 3 ?_
 refine rP 4 ?_
 refine rP 5 ?_
 refine rT 6 ?_
 refine rP 7 ?_
 refine rT 8 ?_
 refine rP 9 ?_
 refine rP 10 ?_
 refine rT 11 ?_
 refine rP 12 ?_
 refine rT 13 ?_
 refine rP 14 ?_
 refine rP 15 ?_
 refine rT 16 ?_
 refine rP 17 ?_
 refine rT 18 ?_
 refine rP 19 ?_
 refine rP 20 ?_
 clear hHeld
 refine rP 21 ?_
 have s0 := H1.out.cell i (by omega)
 have s1 := H1.out.frozen i
 refine rO 22 (fun K hK => ?_)
 refine skip_ (w1 := ?_) (by rfl) rfl ?_ ?_
 rotate_left
 ·
  go_simp
  rfl
 have K1 := Aside0.mk (H1.out.put i fa)
 have K2 : Aside0 (IB (w2.setCell ⟨bf, i, none⟩ (.int .i64 fa)) bd deep) := ⟨H2.out.other (fun e => HNE.out e.symm) i (.int .i64 fa)⟩
 have X4 : Aside0 ((w2.setCell ⟨bf, i, none⟩ (.int .i64 fa)).heap[b4]? = some (.cells #[.int .i64 k, .int .i64 a, .int .i64 b, .float .f64 x3, .float .f64 x4, .int .i64 x5, .int .i64 x6, .int .i64 x7, .int .i64 x8, .int .i64 x9, .int .i64 x10] 103 (0, 0))) := ⟨(Below.heap_setCell _ _ _ _ HB4.out.1.symm).trans B4.out⟩
 refine hK.out _ _ (⟨(xaA X4.out 1).trans rfl, (xaA X4.out 2).trans rfl, S1_ K1.out (by first | omega | (simp; omega)) (by rw [HSI.out _ _ _ (by omega)]; exact HA.out.1), S1_ K2.out (by first | omega | (simp; omega)) (by first | (rw [HSI.out _ _ _ (by omega)]; exact HA.out.2.1) | exact HA.out.2.1), S1_ K2.out (by first | omega | (simp; omega)) (by first | (rw [HSI.out _ _ _ (by omega)]; exact HA.out.2.2) | exact HA.out.2.2)⟩) (fun hHeld => ?_)
 clear hK K s0 s1 hHeld
 refine rP 23 ?_
 have s0 := K2.out.cell i (by omega)
 have s1 := K2.out.frozen i
 refine rO 24 (fun K hK => ?_)
 refine skip_ (w1 := ?_) (by rfl) rfl ?_ ?_
 rotate_left
 ·
  go_simp
  rfl
 have J2 := Aside0.mk (K2.out.put i (mx + 1))
 have J1 := Aside0.mk (K1.out.other HNE.out i (.int .i64 (mx + 1)))
 replace X4 : Aside0 (((w2.setCell ⟨bf, i, none⟩ (.int .i64 fa)).setCell ⟨bd, i, none⟩ (.int .i64 (mx + 1))).heap[b4]? = some (.cells #[.int .i64 k, .int .i64 a, .int .i64 b, .float .f64 x3, .float .f64 x4, .int .i64 x5, .int .i64 x6, .int .i64 x7, .int .i64 x8, .int .i64 x9, .int .i64 x10] 103 (0, 0))) := ⟨(Below.heap_setCell _ _ _ _ HB4.out.2.symm).trans X4.out⟩
 refine hK.out _ _ (⟨(xaA X4.out 1).trans rfl, (xaA X4.out 2).trans rfl, S1_ J1.out (by first | omega | (simp; omega)) (by rw [HSI.out _ _ _ (by omega)]; exact HA.out.1), S1_ J2.out (by first | omega | (simp; omega)) (by first | (rw [HSI.out _ _ _ (by omega)]; exact HA.out.2.1) | exact HA.out.2.1), S1_ J2.out (by first | omega | (simp; omega)) (by first | (rw [HSI.out _ _ _ (by omega)]; exact HA.out.2.2) | exact HA.out.2.2)⟩) (fun hHeld => ?_)
 clear hK K s0 s1 hHeld
 refine rD ?_
 go_wp2_with fail
 go_ret
 exact ⟨rfl, (((Fr.refl (fun k => k = bf ∨ k = bd) w).below HB.out).set _ (Or.inl (Or.inl rfl))).set _ (Or.inl (Or.inr rfl)), by rw [← HFA.out]; exact J1.out, by rw [← HDA.out, ← HDB.out, ← HMX.out]; exact J2.out⟩
theorem xgA (k : Int) : partsP k = 0 ∨ partsP k = 1 ∨ partsP k = 2 := by
 unfold partsP
 by_cases h : k = 1 ∨ k = 2 ∨ k = 3
 ·
  rw [if_pos h]; exact Or.inl rfl
 ·
  rw [if_neg h]
  by_cases h5 : k = 5
  ·
   rw [if_pos h5]; exact Or.inr (Or.inr rfl)
  ·
   rw [if_neg h5]; exact Or.inr (Or.inl rfl)
theorem fits_c (k a b : Int) (x3 x4 : Nat) (x5 x6 x7 x8 x9 x10 : Int) (i n : Nat) (first deep : List Int) (bf bd : Nat) (w : World) (h1 : IB w bf first) (h2 : IB w bd deep) (hne : bf ≠ bd) (hr : Rows2 n i first deep) (hi : i < n) (hn : n ≤ 1024) :
  Calls Tryz.prog 70 #[.agg #[.int .i64 k, .int .i64 a, .int .i64 b, .float .f64 x3, .float .f64 x4, .int .i64 x5, .int .i64 x6, .int .i64 x7, .int .i64 x8, .int .i64 x9, .int .i64 x10], .int .i64 (i : Int), .slice (some ⟨bf, 0, none⟩) n n, .slice (some ⟨bd, 0, none⟩) n n] w fun e w' => e = .returned (.bool (fitsP k a b i first deep).1) ∧ Fr (fun k => k = bf ∨ k = bd) w w' ∧ IB w' bf (fitsP k a b i first deep).2.1 ∧ IB w' bd (fitsP k a b i first deep).2.2 := by
 rcases xgA k with h | h | h
 ·
  exact fits0 _ _ _ _ _ _ _ _ _ _ _ _ _ _ _ _ _ w h1 h2 hne hr hi hn h
 ·
  exact fits1 _ _ _ _ _ _ _ _ _ _ _ _ _ _ _ _ _ w h1 h2 hne hr hi hn h
 ·
  exact fits2 _ _ _ _ _ _ _ _ _ _ _ _ _ _ _ _ _ w h1 h2 hne hr hi hn h
def ckGo : List S103 → Nat → List Int → List Int → Option Nat × List Int × List Int
  | [], _, f, d => (none, f, d)
  | x :: r, i, f, d => if (fieldsB x && (fitsP x.f0 x.f1 x.f2 i (f.set i (i : Int)) (d.set i 1)).1) = true then ckGo r (i + 1) (fitsP x.f0 x.f1 x.f2 i (f.set i (i : Int)) (d.set i 1)).2.1 (fitsP x.f0 x.f1 x.f2 i (f.set i (i : Int)) (d.set i 1)).2.2 else (some i, f, d)
def checkT (t : List S103) : Int × Int :=
 if 1024 < t.length then (2, 0) else if t.length = 0 then (171, 0)
 else match (ckGo t 0 (List.replicate t.length 0) (List.replicate t.length 0)) with
  | (some i, _, _) => (171, (i : Int))
  | (none, f, d) => if rdI f ((t.length : Int) - 1) ≠ 0 then (171, (t.length : Int) - 1) else if 64 < rdI d ((t.length : Int) - 1) then (172, (t.length : Int) - 1) else (0, 0)
theorem xfD (l : List Int) (i j : Nat) (v : Int) : (l.set i v).getD j 0 = if i = j ∧ i < l.length then v else l.getD j 0 := by
 rw [List.getD_eq_getElem?_getD, List.getD_eq_getElem?_getD, List.getElem?_set]
 by_cases h : i = j
 ·
  subst h
  by_cases h2 : i < l.length
  ·
   simp [h2]
  ·
   simp [h2]
 ·
  simp [h]
theorem rows_put {n i : Nat} {f d : List Int} (h : Rows2 n i f d) (hi : i < n) : Rows2 n (i + 1) (f.set i (i : Int)) (d.set i 1) := by
 refine ⟨by rw [List.length_set]; exact h.lf, by rw [List.length_set]; exact h.ld, fun j hj => ?_, fun j hj => ?_⟩
 ·
  rw [xfD]
  by_cases hij : i = j
  ·
   subst hij; rw [if_pos ⟨rfl, by rw [h.lf]; exact hi⟩]; omega
  ·
   rw [if_neg (fun q => hij q.1)]; exact h.f j (by omega)
 ·
  rw [xfD]
  by_cases hij : i = j
  ·
   subst hij; rw [if_pos ⟨rfl, by rw [h.ld]; exact hi⟩]; omega
  ·
   rw [if_neg (fun q => hij q.1)]; exact h.d j (by omega)
theorem rows_fits {n i : Nat} {f d : List Int} (k a b : Int) (h : Rows2 n (i + 1) f d) (hi : i < n) (ho : (fitsP k a b i f d).1 = true) : Rows2 n (i + 1) (fitsP k a b i f d).2.1 (fitsP k a b i f d).2.2 := by
 have hset : ∀ (u v : Int), 0 ≤ u → u ≤ (i : Int) → 0 ≤ v → v ≤ (i : Int) + 1 → Rows2 n (i + 1) (f.set i u) (d.set i v) := fun u v h1 h2 h3 h4 => by
  refine ⟨by rw [List.length_set]; exact h.lf, by rw [List.length_set]; exact h.ld, fun j hj => ?_, fun j hj => ?_⟩
  ·
   rw [xfD]
   by_cases hij : i = j
   ·
    subst hij; rw [if_pos ⟨rfl, by rw [h.lf]; exact hi⟩]; omega
   ·
    rw [if_neg (fun q => hij q.1)]; exact h.f j hj
  ·
   rw [xfD]
   by_cases hij : i = j
   ·
    subst hij; rw [if_pos ⟨rfl, by rw [h.ld]; exact hi⟩]; omega
   ·
    rw [if_neg (fun q => hij q.1)]; exact h.d j hj
 unfold fitsP at ho ⊢
 by_cases h0 : partsP k = 0
 ·
  rw [if_pos h0]; exact h
 rw [if_neg h0] at ho ⊢
 by_cases h1 : partsP k = 1
 ·
  rw [if_pos h1] at ho ⊢
  by_cases h2 : i = 0 ∨ a ≠ (i : Int) - 1 ∨ b ≠ 0
  ·
   rw [if_pos h2]; exact h
  ·
   rw [if_neg h2]
   have hi0 : i ≠ 0 := fun e => h2 (Or.inl e)
   have h5 := h.f (i - 1) (by omega)
   have h6 := h.d (i - 1) (by omega)
   have e : ((i : Int) - 1).toNat = i - 1 := by omega
   refine hset _ _ ?_ ?_ ?_ ?_ <;> (unfold rdI; rw [e]; omega)
 rw [if_neg h1] at ho ⊢
 by_cases h2 : i = 0 ∨ b ≠ (i : Int) - 1 ∨ rdI f ((i : Int) - 1) = 0 ∨ a ≠ rdI f ((i : Int) - 1) - 1
 ·
  rw [if_pos h2]; exact h
 ·
  rw [if_neg h2]
  have hi0 : i ≠ 0 := fun e => h2 (Or.inl e)
  have hb : b = (i : Int) - 1 := Classical.byContradiction fun e => h2 (Or.inr (Or.inl e))
  have hf : rdI f ((i : Int) - 1) ≠ 0 := fun e => h2 (Or.inr (Or.inr (Or.inl e)))
  have ha : a = rdI f ((i : Int) - 1) - 1 := Classical.byContradiction fun e => h2 (Or.inr (Or.inr (Or.inr e)))
  have e : ((i : Int) - 1).toNat = i - 1 := by omega
  have h5 := h.f (i - 1) (by omega)
  have h6 : rdI f ((i : Int) - 1) = f.getD (i - 1) 0 := by unfold rdI; rw [e]
  have h7 := h.f a.toNat (by omega)
  have h8 := h.d a.toNat (by omega)
  have h9 := h.d b.toNat (by omega)
  refine hset _ _ ?_ ?_ ?_ ?_ <;> (unfold rdI; omega)
theorem run_ints (w : World) (n : Nat) (hn : n ≤ 100000) : (Instr.makeSlice 49 (.int .i64 (n : Int)) (.int .i64 (n : Int))).run Tryz.prog w = .ok (.slice (some ⟨w.heap.size, 0, none⟩) n n) (w.alloc (.cells (Array.replicate n (Value.int .i64 0)) 3)) := by
 obtain ⟨i0, hi, hzz⟩ := Option.map_eq_some_iff.1 info3
 simp only [Prod.mk.injEq] at hzz
 obtain ⟨hz0, hz1, hz2⟩ := hzz
 rw [run_make (P := Tryz.prog) w 49 3 i0 (.int .i64 0) Tryz.underlying49 hi hz0 .i64 .i64 (n : Int) (n : Int) (by omega) (by omega) (by rw [hz2]; omega) (by omega)]
 rw [Int.toNat_natCast, hz1, Nat.mul_one]
 have e : madeCells (Value.int IntKind.i64 0).cells n = Array.replicate n (Value.int .i64 0) := by
  apply Array.ext'
  rw [show (Value.int IntKind.i64 0).cells = #[.int .i64 0] from rfl, toList_madeCells_one, Array.toList_replicate]
 rw [e]
theorem IB.made (w : World) (n : Nat) : IB (w.alloc (.cells (Array.replicate n (Value.int .i64 0)) 3)) w.heap.size (List.replicate n 0) := by
  unfold IB
  rw [xbB]; simp
theorem rows0 (n : Nat) : Rows2 n 0 (List.replicate n 0) (List.replicate n 0) := ⟨List.length_replicate, List.length_replicate, fun j hj => absurd hj (Nat.not_lt_zero _), fun j hj => absurd hj (Nat.not_lt_zero _)⟩
theorem rd103 {l : List S103} {i : Nat} (h : i < l.length) : xdR l (i : Int) = l[i] := by
  unfold xdR; rw [Int.toNat_natCast, List.getD_eq_getElem?_getD, List.getElem?_eq_getElem h]; rfl
theorem xfV (t : List S103) (A : Option Addr) (c : Nat) (w : World) (hr : Kd.C k103 w A t.length t) : Calls Tryz.prog 45 #[.slice A t.length c] w fun e w' => e = .returned (.tuple #[.int .i64 (checkT t).1, .int .i64 (checkT t).2]) ∧ Below w.heap.size w w' := by
 have HR := Aside0.mk hr;clear hr
 by_cases h1 : 1024 < t.length
 ·
  have t1 : decide ((1024 : Int) < (t.length : Int)) = true := decide_eq_true (by omega)
  have e : checkT t = (2, 0) := by unfold checkT; rw [if_pos h1]
  rw [e]
  clear e h1
  go_enter Tryz.func45, Tryz.ntmps45
  go_wp2_with fail
  go_ret2
  exact ⟨rfl, Below.refl _ _⟩
 have t1 : decide ((1024 : Int) < (t.length : Int)) = false := decide_eq_false (by omega)
 by_cases h2 : t.length = 0
 ·
  have e : checkT t = (171, 0) := by unfold checkT; rw [if_neg h1, if_pos h2]
  rw [e]
  rw [h2] at HR t1 ⊢
  clear e h1 h2
  go_enter Tryz.func45, Tryz.ntmps45
  go_wp2_with fail
  go_ret2
  exact ⟨rfl, Below.refl _ _⟩
 have e : checkT t = (match (ckGo t 0 (List.replicate t.length 0) (List.replicate t.length 0)) with | (some i, _, _) => (171, (i : Int)) | (none, f, d) => if rdI f ((t.length : Int) - 1) ≠ 0 then (171, (t.length : Int) - 1) else if 64 < rdI d ((t.length : Int) - 1) then (172, (t.length : Int) - 1) else (0, 0)) := by unfold checkT; rw [if_neg h1, if_neg h2]
 generalize hres : checkT t = res at e ⊢
 have HE := Aside0.mk e;clear e hres
 obtain ⟨n, hn⟩ : ∃ n, n = t.length := ⟨_, rfl⟩
 rw [← hn] at HR h1 h2 t1 HE ⊢
 have HN := Aside0.mk hn;clear hn
 have t2 : ((n : Int) == 0) = false := by rw [beq_eq_false_iff_ne]; omega
 have t3 : decide (n = 0) = false := decide_eq_false h2
 have HL : Aside0 (n ≤ 1024 ∧ 0 < n) := ⟨by omega⟩
 clear h1
 go_enter Tryz.func45, Tryz.ntmps45
 go_wp2_with fail
 clear t1 t2 t3 h2
 have hmk : ∀ w', (Instr.makeSlice 49 (.int .i64 (n : Int)) (.int .i64 (n : Int))).run Tryz.prog w' = .ok (.slice (some ⟨w'.heap.size, 0, none⟩) n n) (w'.alloc (.cells (Array.replicate n (Value.int .i64 0)) 3)) := fun w' => run_ints w' n (by have := HL.out; omega)
 refine xdP ?_
 refine start_ (n := 8) (S := fun _ => True) (ds := []) #[false, false, false, false, false, false, false, false] (by kernel_rfl) rfl rfl trivial (fun hHeld => ?_)
 clear hHeld
 have HB0 := Aside0.mk (xaM (Below.refl w.heap.size w))
 have HZ0 : Aside0 (w.drew.heap.size = w.heap.size) := ⟨rfl⟩
 generalize w.drew = w0 at *
 refine rP 0 ?_
 refine rP 1 ?_
 refine rP 3 ?_
 refine rP 4 ?_
 refine join_ (σ := Nat × Nat) 1 #[true, true, true, true, true, true, true, false] (fun q => [(17, .slice (some ⟨q.1, 0, none⟩) n n), (20, .slice (some ⟨q.2, 0, none⟩) n n), (4, .slice (some ⟨q.1, 0, none⟩) n n)]) (fun q w' => q.1 ≠ q.2 ∧ IB w' q.1 (List.replicate n 0) ∧ IB w' q.2 (List.replicate n 0) ∧ w.heap.size ≤ q.1 ∧ w.heap.size ≤ q.2 ∧ Below w.heap.size w w') ?_ (fun hcont => ?_)
 rotate_left
 ·
  refine two_ (i := 2) (Ni := some 17) (j := 5) (Nj := some 20) #[true, true, true, true, true, false, false, false] #[true, true, false, true, true, true, false, false] rfl rfl rfl rfl (by kernel_rfl) (by decide) (by decide) (fun K hK => ?_) (fun K hK => ?_)
  ·
   refine value_ (w1 := ?_) (v := ?_) (by rfl) rfl ?_ ?_
   rotate_left 2
   ·
    go_simp
    constructor
    ·
     rfl
    ·
     rfl
   refine hK.out _ _ trivial (fun hHeld => ?_)
   clear hK K hHeld
   refine rN ?_
   refine rP 6 ?_
   refine rO 5 (fun K hK => ?_)
   refine value_ (w1 := ?_) (v := ?_) (by rfl) rfl ?_ ?_
   rotate_left 2
   ·
    go_simp
    constructor
    ·
     rfl
    ·
     rfl
   refine hK.out _ _ trivial (fun hHeld => ?_)
   clear hK K hHeld
   exact norm_ (by (try simp only [putAll, Act.put, List.setIfInBounds_toArray, List.set_cons_zero, List.set_cons_succ]); first | done | rfl) (hcont ⟨w0.heap.size, w0.heap.size + 1⟩ _ ⟨by simp, xaE (IB.made w0 n) _, by have h3 := IB.made (w0.alloc (.cells (Array.replicate n (Value.int .i64 0)) 3)) n; rwa [World.size_alloc] at h3, by have := HZ0.out; simp only; omega, by have := HZ0.out; simp only; omega, xaC (xaC HB0.out _) _⟩)
  ·
   refine value_ (w1 := ?_) (v := ?_) (by rfl) rfl ?_ ?_
   rotate_left 2
   ·
    go_simp
    constructor
    ·
     rfl
    ·
     rfl
   refine hK.out _ _ trivial (fun hHeld => ?_)
   clear hK K hHeld
   refine rN ?_
   refine rO 2 (fun K hK => ?_)
   refine value_ (w1 := ?_) (v := ?_) (by rfl) rfl ?_ ?_
   rotate_left 2
   ·
    go_simp
    constructor
    ·
     rfl
    ·
     rfl
   refine hK.out _ _ trivial (fun hHeld => ?_)
   clear hK K hHeld
   refine rN ?_
   refine rP 6 ?_
   exact norm_ (by (try simp only [putAll, Act.put, List.setIfInBounds_toArray, List.set_cons_zero, List.set_cons_succ]); first | done | rfl) (hcont ⟨w0.heap.size + 1, w0.heap.size⟩ _ ⟨by simp, by have h3 := IB.made (w0.alloc (.cells (Array.replicate n (Value.int .i64 0)) 3)) n; rwa [World.size_alloc] at h3, xaE (IB.made w0 n) _, by have := HZ0.out; simp only; omega, by have := HZ0.out; simp only; omega, xaC (xaC HB0.out _) _⟩)
 rintro ⟨bf, bd⟩ w1 ⟨hne, h1, h2, hz1, hz2, hb⟩
 have HB := Aside0.mk hb;have H1 := Aside0.mk h1;have H2 := Aside0.mk h2
 have HNE := Aside0.mk (show bf ≠ bd from hne)
 have HZ : Aside0 (w.heap.size ≤ bf ∧ w.heap.size ≤ bd) := ⟨hz1, hz2⟩
 simp only at H1 H2
 clear hb h1 h2 hne hz1 hz2 hmk
 refine rN (a' := _) ?_ (by simp only [putAll, Act.put, List.setIfInBounds_toArray, List.set_cons_zero, List.set_cons_succ]; rfl)
 refine rP 7 ?_
 refine rD ?_
 go_wp2_with fail
 go_loopg [23] n (fun kq v23 w' => ∃ (i : Nat) (f d : List Int), i ≤ n ∧ kq + i = n ∧ v23 = .int .i64 (i : Int) ∧ Aside0 (IB w' bf f) ∧ Aside0 (IB w' bd d) ∧ Aside0 (Rows2 n i f d) ∧ Aside0 (Below w.heap.size w w') ∧ Aside0 ((ckGo t 0 (List.replicate n 0) (List.replicate n 0)) = ckGo (t.drop i) i f d))
 case atStart => exact ⟨0, _, _, by omega, by omega, rfl, H1, H2, ⟨rows0 n⟩, HB, ⟨rfl⟩⟩
 case round =>
  obtain ⟨i, f, d, hi, hik, rfl, H1, H2, HRW, HB, HCK⟩ := hrel
  by_cases hil : i < n
  ·
   have t1 : decide (i < n) = true := decide_eq_true hil
   have hnl := HN.out
   have hil2 : i < t.length := by omega
   have hc := Kd.xbP HR.out HB.out
   obtain ⟨ad, e, q0, q1, q2, q3, q4, q5, q6, q7, q8, q9, q10⟩ := xfW hc (i : Int) (by omega) (by omega)
   subst e
   rw [rd103 hil2] at q0 q1 q2 q3 q4 q5 q6 q7 q8 q9 q10
   rw [Int.toNat_natCast] at q0 q1 q2 q3 q4 q5 q6 q7 q8 q9 q10
   have HT := Aside0.mk (List.drop_eq_getElem_cons hil2)
   obtain ⟨x, hx⟩ : ∃ x, x = t[i] := ⟨_, rfl⟩
   rw [← hx] at HT q0 q1 q2 q3 q4 q5 q6 q7 q8 q9 q10
   clear hx hc hnl hil2
   have K1 := Aside0.mk (H1.out.below (xaC (Below.refl _ _) (.cells #[.int .i64 x.f0, .int .i64 x.f1, .int .i64 x.f2, .float .f64 x.f3, .float .f64 x.f4, .int .i64 x.f5, .int .i64 x.f6, .int .i64 x.f7, .int .i64 x.f8, .int .i64 x.f9, .int .i64 x.f10] 103)))
   have K2 := Aside0.mk (H2.out.below (xaC (Below.refl _ _) (.cells #[.int .i64 x.f0, .int .i64 x.f1, .int .i64 x.f2, .float .f64 x.f3, .float .f64 x.f4, .int .i64 x.f5, .int .i64 x.f6, .int .i64 x.f7, .int .i64 x.f8, .int .i64 x.f9, .int .i64 x.f10] 103)))
   have HB1 := Aside0.mk (xaC HB.out (.cells #[.int .i64 x.f0, .int .i64 x.f1, .int .i64 x.f2, .float .f64 x.f3, .float .f64 x.f4, .int .i64 x.f5, .int .i64 x.f6, .int .i64 x.f7, .int .i64 x.f8, .int .i64 x.f9, .int .i64 x.f10] 103))
   have B7 := Aside0.mk (xbB wr (.cells #[.int .i64 x.f0, .int .i64 x.f1, .int .i64 x.f2, .float .f64 x.f3, .float .f64 x.f4, .int .i64 x.f5, .int .i64 x.f6, .int .i64 x.f7, .int .i64 x.f8, .int .i64 x.f9, .int .i64 x.f10] 103))
   have hbb : bf ≠ wr.heap.size ∧ bd ≠ wr.heap.size := by have := H1.out.lt; have := H2.out.lt; omega
   have s1 := K1.out.cell i (by rw [HRW.out.lf]; exact hil)
   have s2 := K1.out.frozen i
   have J1 := Aside0.mk (K1.out.put i (i : Int))
   have J2 := Aside0.mk (K2.out.other (fun e => HNE.out e.symm) i (.int .i64 (i : Int)))
   have s3 := J2.out.cell i (by rw [HRW.out.ld]; exact hil)
   have s4 := J2.out.frozen i
   have L1 := Aside0.mk (J1.out.other HNE.out i (.int .i64 1))
   have L2 := Aside0.mk (J2.out.put i 1)
   have B8 : Aside0 ((((wr.alloc (.cells #[.int .i64 x.f0, .int .i64 x.f1, .int .i64 x.f2, .float .f64 x.f3, .float .f64 x.f4, .int .i64 x.f5, .int .i64 x.f6, .int .i64 x.f7, .int .i64 x.f8, .int .i64 x.f9, .int .i64 x.f10] 103)).setCell ⟨bf, i, none⟩ (.int .i64 (i : Int))).setCell ⟨bd, i, none⟩ (.int .i64 1)).heap[wr.heap.size]? = some (.cells #[.int .i64 x.f0, .int .i64 x.f1, .int .i64 x.f2, .float .f64 x.f3, .float .f64 x.f4, .int .i64 x.f5, .int .i64 x.f6, .int .i64 x.f7, .int .i64 x.f8, .int .i64 x.f9, .int .i64 x.f10] 103 (0, 0))) := ⟨(Below.heap_setCell _ _ _ _ hbb.2.symm).trans ((Below.heap_setCell _ _ _ _ hbb.1.symm).trans B7.out)⟩
   have HB2 := Aside0.mk (xbA (g := bd) (j := i) (v := .int .i64 1) (xbA (g := bf) (j := i) (v := .int .i64 (i : Int)) HB1.out HZ.out.1) HZ.out.2)
   have HRP := Aside0.mk (rows_put HRW.out hil)
   obtain ⟨⟨c0, c1, c2, c3, c4, c5, c6, c7, c8, c9, c10⟩, z_⟩ := blk11 B8
   clear z_ K1 K2 J1 J2 hbb B7
   have g3 : (i : Int) < (n : Int) := by omega
   go_wp2_with fail
   clear s1 s2 s3 s4 q0 q1 q2 q3 q4 q5 q6 q7 q8 q9 q10 c0 c1 c2 c3 c4 c5 c6 c7 c8 c9 c10
   generalize (((wr.alloc (.cells #[.int .i64 x.f0, .int .i64 x.f1, .int .i64 x.f2, .float .f64 x.f3, .float .f64 x.f4, .int .i64 x.f5, .int .i64 x.f6, .int .i64 x.f7, .int .i64 x.f8, .int .i64 x.f9, .int .i64 x.f10] 103)).setCell ⟨bf, i, none⟩ (.int .i64 (i : Int))).setCell ⟨bd, i, none⟩ (.int .i64 1)) = w2 at *
   have HRI : Aside0 (Rows2 n i (f.set i (i : Int)) (d.set i 1)) := ⟨⟨HRP.out.lf, HRP.out.ld, fun j hj => HRP.out.f j (by omega), fun j hj => HRP.out.d j (by omega)⟩⟩
   have hfin : ∀ r, (ckGo (t.drop i) i f d) = (some i, f, d) → r = res → r = ((171, (i : Int)) : Int × Int) := fun r h1 h2 => by rw [h2, HE.out, HCK.out, h1]
   have HFIN := Aside0.mk hfin;clear hfin
   refine (fields_c x _).mono ?_
   rintro e w3 ⟨rfl, hb3⟩
   have M1 := Aside0.mk (L1.out.below hb3)
   have M2 := Aside0.mk (L2.out.below hb3)
   have B9 := Aside0.mk (xaK B8.out hb3)
   have HB3 := Aside0.mk (HB2.out.trans (hb3.mono HB2.out.size))
   clear hb3 L1 L2 B8
   obtain ⟨⟨c0, c1, c2, c3, c4, c5, c6, c7, c8, c9, c10⟩, z_⟩ := blk11 B9
   clear z_
   by_cases hfb : fieldsB x = true
   ·
    have hfc := fits_c x.f0 x.f1 x.f2 x.f3 x.f4 x.f5 x.f6 x.f7 x.f8 x.f9 x.f10 i n _ _ bf bd w3 M1.out M2.out HNE.out HRI.out hil HL.out.1;have HFC := Aside0.mk hfc;have HFB := Aside0.mk hfb;clear hfc
    by_cases hq : (fitsP x.f0 x.f1 x.f2 i (f.set i (i : Int)) (d.set i 1)).1 = true
    ·
     have HQ := Aside0.mk hq
     have hmx : (i : Int) + 1 ≤ 9223372036854775807 := by have := HL.out; omega
     rw [hq] at HFC
     rw [hfb]
     clear hq hfb
     go_wp2_with (go_at_call 70; go_loud ((with_reducible refine HFC.out.mono ?_); rintro e w4 ⟨rfl, hf4, n1, n2⟩; have N1 := Aside0.mk n1; have N2 := Aside0.mk n2; have HB4 := Aside0.mk (HB3.out.trans (hf4.xcW HB3.out.size (fun k hk => by rcases hk with rfl | rfl; exact HZ.out.1; exact HZ.out.2))); clear hf4 n1 n2))
     go_roundg (gk - 1)
     case measure => omega
     case rel => exact ⟨i + 1, _, _, by omega, by omega, by go_num, N1, N2, ⟨rows_fits _ _ _ HRP.out hil HQ.out⟩, HB4, ⟨by rw [HCK.out, HT.out, ckGo, if_pos (by rw [HFB.out, HQ.out]; rfl)]⟩⟩
    ·
     replace hq := Bool.eq_false_iff.2 hq;have HQ := Aside0.mk hq
     have hmx : (i : Int) + 1 ≤ 9223372036854775807 := by have := HL.out; omega
     rw [hq] at HFC
     rw [hfb]
     clear hq hfb
     go_wp2_with (go_at_call 70; go_loud ((with_reducible refine HFC.out.mono ?_); rintro e w4 ⟨rfl, hf4, n1, n2⟩; have N1 := Aside0.mk n1; have N2 := Aside0.mk n2; have HB4 := Aside0.mk (HB3.out.trans (hf4.xcW HB3.out.size (fun k hk => by rcases hk with rfl | rfl; exact HZ.out.1; exact HZ.out.2))); clear hf4 n1 n2))
     go_ret2
     have e := HFIN.out res (by rw [HT.out, ckGo, if_neg (by rw [HFB.out, HQ.out]; decide)]) rfl
     rw [e]
     exact ⟨rfl, HB4.out⟩
   ·
    replace hfb := Bool.eq_false_iff.2 hfb;have HFB := Aside0.mk hfb
    rw [hfb]
    clear hfb
    go_wp2_with fail
    go_ret2
    have e := HFIN.out res (by rw [HT.out, ckGo, if_neg (by rw [HFB.out, Bool.false_and]; decide)]) rfl
    rw [e]
    exact ⟨rfl, HB3.out⟩
  ·
   have t1 : decide (i < n) = false := decide_eq_false hil
   have hin : i = n := by omega
   have hres : res = (if rdI f ((n : Int) - 1) ≠ 0 then (171, (n : Int) - 1) else if 64 < rdI d ((n : Int) - 1) then (172, (n : Int) - 1) else (0, 0)) := by rw [HE.out, HCK.out, List.drop_eq_nil_of_le (by have := HN.out; omega)]; rfl
   have hln := HL.out
   have hwr : IntKind.i64.wrap ((n : Int) - 1) = (n : Int) - 1 := by rw [i64_w]; unfold wrap64; omega
   have f0 := H1.out.rd ((n : Int) - 1) (by omega) (by rw [HRW.out.lf]; omega)
   have f1 := H2.out.rd ((n : Int) - 1) (by omega) (by rw [HRW.out.ld]; omega)
   have hti : ((n : Int) - 1).toNat = n - 1 := by omega
   rw [hti] at f0 f1
   clear hti
   generalize rdI f ((n : Int) - 1) = fv at *
   generalize rdI d ((n : Int) - 1) = dv at *
   have HRS := Aside0.mk hres
   have g4 : (1 : Int) ≤ (n : Int) := by omega
   have g1 : (0 : Int) ≤ (n : Int) - 1 := by omega
   have g2 : (n : Int) - 1 < (n : Int) := by omega
   clear hin hres hln
   by_cases a1 : fv = 0
   ·
    subst a1
    have u1 : ((0 : Int) != 0) = false := rfl
    by_cases a2 : 64 < dv
    ·
     have u2 : decide (64 < dv) = true := decide_eq_true a2
     have HA2 := Aside0.mk a2;clear a2
     go_wp2_with fail
     go_ret2
     have e := HRS.out
     rw [if_neg (by simp), if_pos (by have := HA2.out; omega)] at e
     rw [e]
     exact ⟨rfl, HB.out⟩
    ·
     have u2 : decide (64 < dv) = false := decide_eq_false a2
     have HA2 := Aside0.mk a2;clear a2
     go_wp2_with fail
     go_ret2
     have e := HRS.out
     rw [if_neg (by simp), if_neg (by have := HA2.out; omega)] at e
     rw [e]
     exact ⟨rfl, HB.out⟩
   ·
    have u1 : (fv != 0) = true := by rw [bne, beq_eq_false_iff_ne.2 a1]; rfl
    have HA1 := Aside0.mk a1;clear a1
    go_wp2_with fail
    go_ret2
    have e := HRS.out
    rw [if_pos HA1.out] at e
    rw [e]
    exact ⟨rfl, HB.out⟩
def kindsL : List Int := [0, 0, 2, 3, 4, 6, 7, 8]
def KT (w : World) : Prop := ∃ (a : Addr) (c : Nat), w.cell? ⟨0, 0, none⟩ = some (.slice (some a) 8 c) ∧ a.block < w.heap.size ∧ ∀ j, j < 8 → w.cell? (a.add j) = some (.int .i64 (rdI kindsL (j : Int)))
theorem add_block (a : Addr) (n : Nat) : (a.add n).block = a.block := by unfold Addr.add; split <;> rfl
theorem lt_of_cell {w : World} {b j : Nat} {v : Value} (h : w.cell? ⟨b, j, none⟩ = some v) : b < w.heap.size := by
 rcases Nat.lt_or_ge b w.heap.size with h1 | h1
 ·
  exact h1
 ·
  rw [World.cell?] at h
  simp [Array.getElem?_eq_none h1] at h
theorem KT.below {w w' : World} (h : KT w) (hb : Below w.heap.size w w') : KT w' := by
  obtain ⟨a, c, h1, h2, h3⟩ := h
  exact ⟨a, c, (hb.cell (p := ⟨0, 0, none⟩) (lt_of_cell h1)).trans h1, Nat.lt_of_lt_of_le h2 hb.size, fun j hj => (hb.cell (p := a.add j) (by rw [add_block]; exact h2)).trans (h3 j hj)⟩
def termO (o : S37) : S103 := ⟨rdI kindsL o.f0, 0, 0, o.f1, o.f2, o.f3, o.f4, o.f5, o.f6, o.f7, o.f8⟩
theorem put11 {w : World} {b : Nat} {t : TypeId} {z0 z1 z2 z3 z4 z5 z6 z7 z8 z9 z10 : Value} (x0 x1 x2 x3 x4 x5 x6 x7 x8 x9 x10 : Value) (h : w.heap[b]? = some (.cells #[z0, z1, z2, z3, z4, z5, z6, z7, z8, z9, z10] t (0, 0))) : (((((((((((w.setCell ⟨b, 0, none⟩ x0).setCell ⟨b, 1, none⟩ x1).setCell ⟨b, 2, none⟩ x2).setCell ⟨b, 3, none⟩ x3).setCell ⟨b, 4, none⟩ x4).setCell ⟨b, 5, none⟩ x5).setCell ⟨b, 6, none⟩ x6).setCell ⟨b, 7, none⟩ x7).setCell ⟨b, 8, none⟩ x8).setCell ⟨b, 9, none⟩ x9).setCell ⟨b, 10, none⟩ x10).heap[b]? = some (.cells #[x0, x1, x2, x3, x4, x5, x6, x7, x8, x9, x10] t (0, 0)) := by
 have q0 : (w.setCell ⟨b, 0, none⟩ x0).heap[b]? = some (.cells #[x0, z1, z2, z3, z4, z5, z6, z7, z8, z9, z10] t (0, 0)) := xaS h 0 x0 rfl
 have q1 : ((w.setCell ⟨b, 0, none⟩ x0).setCell ⟨b, 1, none⟩ x1).heap[b]? = some (.cells #[x0, x1, z2, z3, z4, z5, z6, z7, z8, z9, z10] t (0, 0)) := xaS q0 1 x1 rfl
 have q2 : (((w.setCell ⟨b, 0, none⟩ x0).setCell ⟨b, 1, none⟩ x1).setCell ⟨b, 2, none⟩ x2).heap[b]? = some (.cells #[x0, x1, x2, z3, z4, z5, z6, z7, z8, z9, z10] t (0, 0)) := xaS q1 2 x2 rfl
 have q3 : ((((w.setCell ⟨b, 0, none⟩ x0).setCell ⟨b, 1, none⟩ x1).setCell ⟨b, 2, none⟩ x2).setCell ⟨b, 3, none⟩ x3).heap[b]? = some (.cells #[x0, x1, x2, x3, z4, z5, z6, z7, z8, z9, z10] t (0, 0)) := xaS q2 3 x3 rfl
 have q4 : (((((w.setCell ⟨b, 0, none⟩ x0).setCell ⟨b, 1, none⟩ x1).setCell ⟨b, 2, none⟩ x2).setCell ⟨b, 3, none⟩ x3).setCell ⟨b, 4, none⟩ x4).heap[b]? = some (.cells #[x0, x1, x2, x3, x4, z5, z6, z7, z8, z9, z10] t (0, 0)) := xaS q3 4 x4 rfl
 have q5 : ((((((w.setCell ⟨b, 0, none⟩ x0).setCell ⟨b, 1, none⟩ x1).setCell ⟨b, 2, none⟩ x2).setCell ⟨b, 3, none⟩ x3).setCell ⟨b, 4, none⟩ x4).setCell ⟨b, 5, none⟩ x5).heap[b]? = some (.cells #[x0, x1, x2, x3, x4, x5, z6, z7, z8, z9, z10] t (0, 0)) := xaS q4 5 x5 rfl
 have q6 : (((((((w.setCell ⟨b, 0, none⟩ x0).setCell ⟨b, 1, none⟩ x1).setCell ⟨b, 2, none⟩ x2).setCell ⟨b, 3, none⟩ x3).setCell ⟨b, 4, none⟩ x4).setCell ⟨b, 5, none⟩ x5).setCell ⟨b, 6, none⟩ x6).heap[b]? = some (.cells #[x0, x1, x2, x3, x4, x5, x6, z7, z8, z9, z10] t (0, 0)) := xaS q5 6 x6 rfl
 have q7 : ((((((((w.setCell ⟨b, 0, none⟩ x0).setCell ⟨b, 1, none⟩ x1).setCell ⟨b, 2, none⟩ x2).setCell ⟨b, 3, none⟩ x3).setCell ⟨b, 4, none⟩ x4).setCell ⟨b, 5, none⟩ x5).setCell ⟨b, 6, none⟩ x6).setCell ⟨b, 7, none⟩ x7).heap[b]? = some (.cells #[x0, x1, x2, x3, x4, x5, x6, x7, z8, z9, z10] t (0, 0)) := xaS q6 7 x7 rfl
 have q8 : (((((((((w.setCell ⟨b, 0, none⟩ x0).setCell ⟨b, 1, none⟩ x1).setCell ⟨b, 2, none⟩ x2).setCell ⟨b, 3, none⟩ x3).setCell ⟨b, 4, none⟩ x4).setCell ⟨b, 5, none⟩ x5).setCell ⟨b, 6, none⟩ x6).setCell ⟨b, 7, none⟩ x7).setCell ⟨b, 8, none⟩ x8).heap[b]? = some (.cells #[x0, x1, x2, x3, x4, x5, x6, x7, x8, z9, z10] t (0, 0)) := xaS q7 8 x8 rfl
 have q9 : ((((((((((w.setCell ⟨b, 0, none⟩ x0).setCell ⟨b, 1, none⟩ x1).setCell ⟨b, 2, none⟩ x2).setCell ⟨b, 3, none⟩ x3).setCell ⟨b, 4, none⟩ x4).setCell ⟨b, 5, none⟩ x5).setCell ⟨b, 6, none⟩ x6).setCell ⟨b, 7, none⟩ x7).setCell ⟨b, 8, none⟩ x8).setCell ⟨b, 9, none⟩ x9).heap[b]? = some (.cells #[x0, x1, x2, x3, x4, x5, x6, x7, x8, x9, z10] t (0, 0)) := xaS q8 9 x9 rfl
 have q10 : (((((((((((w.setCell ⟨b, 0, none⟩ x0).setCell ⟨b, 1, none⟩ x1).setCell ⟨b, 2, none⟩ x2).setCell ⟨b, 3, none⟩ x3).setCell ⟨b, 4, none⟩ x4).setCell ⟨b, 5, none⟩ x5).setCell ⟨b, 6, none⟩ x6).setCell ⟨b, 7, none⟩ x7).setCell ⟨b, 8, none⟩ x8).setCell ⟨b, 9, none⟩ x9).setCell ⟨b, 10, none⟩ x10).heap[b]? = some (.cells #[x0, x1, x2, x3, x4, x5, x6, x7, x8, x9, x10] t (0, 0)) := xaS q9 10 x10 rfl
 exact q10
theorem put11_below {w0 w : World} {b : Nat} (x0 x1 x2 x3 x4 x5 x6 x7 x8 x9 x10 : Value) (hb : w0.heap.size ≤ b) (h : Below w0.heap.size w0 w) : Below w0.heap.size w0 (((((((((((w.setCell ⟨b, 0, none⟩ x0).setCell ⟨b, 1, none⟩ x1).setCell ⟨b, 2, none⟩ x2).setCell ⟨b, 3, none⟩ x3).setCell ⟨b, 4, none⟩ x4).setCell ⟨b, 5, none⟩ x5).setCell ⟨b, 6, none⟩ x6).setCell ⟨b, 7, none⟩ x7).setCell ⟨b, 8, none⟩ x8).setCell ⟨b, 9, none⟩ x9).setCell ⟨b, 10, none⟩ x10) :=
  xbA (xbA (xbA (xbA (xbA (xbA (xbA (xbA (xbA (xbA (xbA h hb) hb) hb) hb) hb) hb) hb) hb) hb) hb) hb
theorem term_c (o0 : Int) (o1 o2 : Nat) (o3 o4 o5 o6 o7 o8 : Int) (w : World) (hk : KT w) (h0 : 0 ≤ o0) (h1 : o0 < 8) : Calls Tryz.prog 90 #[.agg #[.int .i64 o0, .float .f64 o1, .float .f64 o2, .int .i64 o3, .int .i64 o4, .int .i64 o5, .int .i64 o6, .int .i64 o7, .int .i64 o8]] w fun e w' => e = .returned (.agg #[.int .i64 (rdI kindsL o0), .int .i64 0, .int .i64 0, .float .f64 o1, .float .f64 o2, .int .i64 o3, .int .i64 o4, .int .i64 o5, .int .i64 o6, .int .i64 o7, .int .i64 o8]) ∧ Below w.heap.size w w' := by
 obtain ⟨ka, kc, hkc, hkl, hke⟩ := hk
 have hkj := hke o0.toNat (by omega)
 rw [show ((o0.toNat : Nat) : Int) = o0 by omega] at hkj
 generalize rdI kindsL o0 = tk at *
 have B1 := Aside0.mk (xaE (xbB w (.cells #[.int .i64 o0, .float .f64 o1, .float .f64 o2, .int .i64 o3, .int .i64 o4, .int .i64 o5, .int .i64 o6, .int .i64 o7, .int .i64 o8] 37)) (.cells #[.int .i64 0, .int .i64 0, .int .i64 0, .float .f64 0, .float .f64 0, .int .i64 0, .int .i64 0, .int .i64 0, .int .i64 0, .int .i64 0, .int .i64 0] 103))
 have B2 : Aside0 (((w.alloc (.cells #[.int .i64 o0, .float .f64 o1, .float .f64 o2, .int .i64 o3, .int .i64 o4, .int .i64 o5, .int .i64 o6, .int .i64 o7, .int .i64 o8] 37)).alloc (.cells #[.int .i64 0, .int .i64 0, .int .i64 0, .float .f64 0, .float .f64 0, .int .i64 0, .int .i64 0, .int .i64 0, .int .i64 0, .int .i64 0, .int .i64 0] 103)).heap[w.heap.size + 1]? = some (.cells #[.int .i64 0, .int .i64 0, .int .i64 0, .float .f64 0, .float .f64 0, .int .i64 0, .int .i64 0, .int .i64 0, .int .i64 0, .int .i64 0, .int .i64 0] 103)) := ⟨by have h3 := xbB (w.alloc (.cells #[.int .i64 o0, .float .f64 o1, .float .f64 o2, .int .i64 o3, .int .i64 o4, .int .i64 o5, .int .i64 o6, .int .i64 o7, .int .i64 o8] 37)) (.cells #[.int .i64 0, .int .i64 0, .int .i64 0, .float .f64 0, .float .f64 0, .int .i64 0, .int .i64 0, .int .i64 0, .int .i64 0, .int .i64 0, .int .i64 0] 103); rwa [World.size_alloc] at h3⟩
 have HB := Aside0.mk (xaC (xaC (Below.refl w.heap.size w) (.cells #[.int .i64 o0, .float .f64 o1, .float .f64 o2, .int .i64 o3, .int .i64 o4, .int .i64 o5, .int .i64 o6, .int .i64 o7, .int .i64 o8] 37)) (.cells #[.int .i64 0, .int .i64 0, .int .i64 0, .float .f64 0, .float .f64 0, .int .i64 0, .int .i64 0, .int .i64 0, .int .i64 0, .int .i64 0, .int .i64 0] 103))
 have HKC := Aside0.mk hkc;have HKJ := Aside0.mk hkj;have HKL := Aside0.mk hkl
 have HK0 := Aside0.mk (lt_of_cell hkc)
 clear hkc hkj hke hkl
 go_enter Tryz.func90, Tryz.ntmps90
 go_wp2_with fail
 obtain ⟨b1, hb1⟩ : ∃ b, b = w.heap.size := ⟨_, rfl⟩
 rw [← hb1] at B1 B2 ⊢
 have HB1 := Aside0.mk hb1;clear hb1
 generalize (w.alloc (.cells #[.int .i64 o0, .float .f64 o1, .float .f64 o2, .int .i64 o3, .int .i64 o4, .int .i64 o5, .int .i64 o6, .int .i64 o7, .int .i64 o8] 37)).alloc (.cells #[.int .i64 0, .int .i64 0, .int .i64 0, .float .f64 0, .float .f64 0, .int .i64 0, .int .i64 0, .int .i64 0, .int .i64 0, .int .i64 0, .int .i64 0] 103) = w1 at *
 refine xdP ?_
 refine start_ (n := 23) (S := fun w' => w'.cell? ⟨0, 0, none⟩ = some (.slice (some ka) 8 kc) ∧ w'.cell? (ka.add o0.toNat) = some (.int .i64 tk) ∧ w'.cell? ⟨b1, 0, none⟩ = some (.int .i64 o0) ∧ w'.cell? ⟨b1, 1, none⟩ = some (.float .f64 o1) ∧ w'.cell? ⟨b1, 2, none⟩ = some (.float .f64 o2) ∧ w'.cell? ⟨b1, 3, none⟩ = some (.int .i64 o3) ∧ w'.cell? ⟨b1, 4, none⟩ = some (.int .i64 o4) ∧ w'.cell? ⟨b1, 5, none⟩ = some (.int .i64 o5) ∧ w'.cell? ⟨b1, 6, none⟩ = some (.int .i64 o6) ∧ w'.cell? ⟨b1, 7, none⟩ = some (.int .i64 o7) ∧ w'.cell? ⟨b1, 8, none⟩ = some (.int .i64 o8)) (ds := [22]) #[false, false, false, false, false, false, false, false, false, false, false, false, false, false, false, false, false, false, false, false, false, false, false] (by kernel_rfl) rfl rfl ⟨(HB.out.cell (p := ⟨0, 0, none⟩) HK0.out).trans HKC.out, (HB.out.cell (p := ka.add o0.toNat) (by rw [add_block]; exact HKL.out)).trans HKJ.out, (xaA B1.out 0).trans rfl, (xaA B1.out 1).trans rfl, (xaA B1.out 2).trans rfl, (xaA B1.out 3).trans rfl, (xaA B1.out 4).trans rfl, (xaA B1.out 5).trans rfl, (xaA B1.out 6).trans rfl, (xaA B1.out 7).trans rfl, (xaA B1.out 8).trans rfl⟩ (fun hHeld => ?_)
 replace B2 := Aside0.mk (xaF B2.out)
 replace HB := Aside0.mk (xaM HB.out)
 clear B1
 generalize w1.drew = w2 at *
 refine rT 0 ?_
 refine rP 1 ?_
 refine rT 2 ?_
 refine rP 3 ?_
 refine rT 4 ?_
 refine rP 5 ?_
 refine rT 6 ?_
 refine rP 7 ?_
 refine rT 8 ?_
 refine rP 9 ?_
 refine rT 10 ?_
 refine rP 11 ?_
 refine rT 12 ?_
 refine rP 13 ?_
 refine rT 14 ?_
 refine rP 15 ?_
 refine rT 16 ?_
 refine rP 17 ?_
 refine rT 18 ?_
 refine rP 19 ?_
 refine rT 20 ?_
 refine rP 21 ?_
 clear hHeld
 obtain ⟨⟨d0, d1, d2, d3, d4, d5, d6, d7, d8, d9, d10⟩, y_⟩ := blk11 B2
 refine rL 22 (fun K hK => ?_)
 refine skip_ (w1 := ?_) (by rfl) rfl ?_ ?_
 rotate_left
 ·
  go_simp
  rfl
 refine hK.out _ _ ?_
 clear hK K
 refine rD ?_
 clear d0 d1 d2 d3 d4 d5 d6 d7 d8 d9 d10 y_
 go_wp2_with fail
 have B3 := Aside0.mk (put11 (.int .i64 tk) (.int .i64 0) (.int .i64 0) (.float .f64 o1) (.float .f64 o2) (.int .i64 o3) (.int .i64 o4) (.int .i64 o5) (.int .i64 o6) (.int .i64 o7) (.int .i64 o8) B2.out)
 have HB3 := Aside0.mk (put11_below (b := b1 + 1) (.int .i64 tk) (.int .i64 0) (.int .i64 0) (.float .f64 o1) (.float .f64 o2) (.int .i64 o3) (.int .i64 o4) (.int .i64 o5) (.int .i64 o6) (.int .i64 o7) (.int .i64 o8) (by have := HB1.out; omega) HB.out)
 generalize (((((((((((w2.setCell ⟨b1 + 1, 0, none⟩ (.int .i64 tk)).setCell ⟨b1 + 1, 1, none⟩ (.int .i64 0)).setCell ⟨b1 + 1, 2, none⟩ (.int .i64 0)).setCell ⟨b1 + 1, 3, none⟩ (.float .f64 o1)).setCell ⟨b1 + 1, 4, none⟩ (.float .f64 o2)).setCell ⟨b1 + 1, 5, none⟩ (.int .i64 o3)).setCell ⟨b1 + 1, 6, none⟩ (.int .i64 o4)).setCell ⟨b1 + 1, 7, none⟩ (.int .i64 o5)).setCell ⟨b1 + 1, 8, none⟩ (.int .i64 o6)).setCell ⟨b1 + 1, 9, none⟩ (.int .i64 o7)).setCell ⟨b1 + 1, 10, none⟩ (.int .i64 o8)) = w3 at *
 obtain ⟨⟨d0, d1, d2, d3, d4, d5, d6, d7, d8, d9, d10⟩, y_⟩ := blk11 B3
 clear y_
 refine bodyPost_ret (v := .agg #[.int .i64 tk, .int .i64 0, .int .i64 0, .float .f64 o1, .float .f64 o2, .int .i64 o3, .int .i64 o4, .int .i64 o5, .int .i64 o6, .int .i64 o7, .int .i64 o8]) (by simp [results, Tryz.results90, go_sem, d0, d1, d2, d3, d4, d5, d6, d7, d8, d9, d10]) rfl ⟨rfl, HB3.out⟩
def addsB (k : Int) : Bool := k == 2 || k == 3
theorem adds_c (k : Int) (w : World) : Calls Tryz.prog 67 #[.int .i64 k] w fun e w' => e = .returned (.bool (addsB k)) ∧ w' = w := by
 unfold addsB
 by_cases h : (k == 2) = true
 ·
  go_enter Tryz.func67, Tryz.ntmps67
  go_wp2
  go_ret
  exact ⟨by simp [h], rfl⟩
 ·
  replace h := Bool.eq_false_iff.2 h
  go_enter Tryz.func67, Tryz.ntmps67
  go_wp2
  go_ret
  exact ⟨by simp [h], rfl⟩
def zeroT : S103 := ⟨1, 0, 0, 0, 0, 0, 0, 0, 0, 0, 0⟩
def treeO (o : S37) : List S103 := if addsB o.f0 = true then [termO o] else [zeroT, termO o]
def xcC (o : S37) : Bool :=
 if o.f0 < 1 ∨ 7 < o.f0 then false
 else if o.f0 = 1 then decide (o.f1 = 0 ∧ o.f2 = 0) && (o.f3 == 0 && (o.f4 == 0 && (o.f5 == 0 && (o.f6 == 0 && (o.f7 == 0 && o.f8 == 0)))))
 else (checkT (treeO o)).1 == 0
theorem C2 {w : World} (x y : S103) : Kd.C k103 (w.alloc (.cells #[.int .i64 x.f0, .int .i64 x.f1, .int .i64 x.f2, .float .f64 x.f3, .float .f64 x.f4, .int .i64 x.f5, .int .i64 x.f6, .int .i64 x.f7, .int .i64 x.f8, .int .i64 x.f9, .int .i64 x.f10, .int .i64 y.f0, .int .i64 y.f1, .int .i64 y.f2, .float .f64 y.f3, .float .f64 y.f4, .int .i64 y.f5, .int .i64 y.f6, .int .i64 y.f7, .int .i64 y.f8, .int .i64 y.f9, .int .i64 y.f10] 103)) (some ⟨w.heap.size, 0, none⟩) 2 [x, y] := by
 have hn := xbB w (.cells #[.int .i64 x.f0, .int .i64 x.f1, .int .i64 x.f2, .float .f64 x.f3, .float .f64 x.f4, .int .i64 x.f5, .int .i64 x.f6, .int .i64 x.f7, .int .i64 x.f8, .int .i64 x.f9, .int .i64 x.f10, .int .i64 y.f0, .int .i64 y.f1, .int .i64 y.f2, .float .f64 y.f3, .float .f64 y.f4, .int .i64 y.f5, .int .i64 y.f6, .int .i64 y.f7, .int .i64 y.f8, .int .i64 y.f9, .int .i64 y.f10] 103)
 refine ⟨rfl, by omega, fun _ => ⟨_, rfl, fun j q hj => ?_⟩⟩
 match j, hj with
 | 0, hj =>
  obtain rfl : x = q := by simpa using hj
  refine ⟨_, rfl, xgV _ _, fun i u hu => ?_⟩
  rw [Nat.zero_mul, Nat.zero_add, Addr.add_lit, Nat.zero_add, xaA hn]
  match i, hu with
  | 0, hu | 1, hu | 2, hu | 3, hu | 4, hu | 5, hu | 6, hu | 7, hu | 8, hu | 9, hu | 10, hu => exact hu
  | n + 11, hu => simp at hu
 | 1, hj =>
  obtain rfl : y = q := by simpa using hj
  refine ⟨_, rfl, xgV _ _, fun i u hu => ?_⟩
  rw [Addr.add_lit, xaA hn]
  match i, hu with
  | 0, hu | 1, hu | 2, hu | 3, hu | 4, hu | 5, hu | 6, hu | 7, hu | 8, hu | 9, hu | 10, hu => exact hu
  | n + 11, hu => simp at hu
 | n + 2, hj => simp at hj
theorem fieldsO_c (o0 : Int) (o1 o2 : Nat) (o3 o4 o5 o6 o7 o8 : Int) (w : World) (hk : KT w) : Calls Tryz.prog 66 #[.agg #[.int .i64 o0, .float .f64 o1, .float .f64 o2, .int .i64 o3, .int .i64 o4, .int .i64 o5, .int .i64 o6, .int .i64 o7, .int .i64 o8]] w fun e w' => e = .returned (.bool (xcC ⟨o0, o1, o2, o3, o4, o5, o6, o7, o8⟩)) ∧ Below w.heap.size w w' := by
 have HK := Aside0.mk hk;clear hk
 have B1 := Aside0.mk (xbB w (.cells #[.int .i64 o0, .float .f64 o1, .float .f64 o2, .int .i64 o3, .int .i64 o4, .int .i64 o5, .int .i64 o6, .int .i64 o7, .int .i64 o8] 37))
 have HB := Aside0.mk (xaC (Below.refl w.heap.size w) (.cells #[.int .i64 o0, .float .f64 o1, .float .f64 o2, .int .i64 o3, .int .i64 o4, .int .i64 o5, .int .i64 o6, .int .i64 o7, .int .i64 o8] 37))
 have HK1 := Aside0.mk (HK.out.below HB.out)
 obtain ⟨c0, c1, c2, c3, c4, c5, c6, c7, c8, z0, z1, z2, z3, z4, z5, z6, z7, z8⟩ := blk9 B1
 clear z0 z1 z2 z3 z4 z5 z6 z7 z8
 by_cases h1 : o0 < 1
 ·
  have e : xcC ⟨o0, o1, o2, o3, o4, o5, o6, o7, o8⟩ = false := by unfold xcC; rw [if_pos (Or.inl h1)]
  rw [e]
  have t1 : decide (o0 < 1) = true := decide_eq_true h1
  clear e h1
  go_enter Tryz.func66, Tryz.ntmps66
  go_wp2_with (fail)
  go_ret
  exact ⟨rfl, HB.out⟩
 have t1 : decide (o0 < 1) = false := decide_eq_false h1
 by_cases h2 : 7 < o0
 ·
  have e : xcC ⟨o0, o1, o2, o3, o4, o5, o6, o7, o8⟩ = false := by unfold xcC; rw [if_pos (Or.inr h2)]
  rw [e]
  have t2 : decide (7 < o0) = true := decide_eq_true h2
  clear e h1 h2
  go_enter Tryz.func66, Tryz.ntmps66
  go_wp2_with (fail)
  go_ret
  exact ⟨rfl, HB.out⟩
 have t2 : decide (7 < o0) = false := decide_eq_false h2
 by_cases h3 : o0 = 1
 ·
  subst h3
  have e : xcC ⟨1, o1, o2, o3, o4, o5, o6, o7, o8⟩ = (decide (o1 = 0 ∧ o2 = 0) && (o3 == 0 && (o4 == 0 && (o5 == 0 && (o6 == 0 && (o7 == 0 && o8 == 0)))))) := by unfold xcC; rw [if_neg (by simp), if_pos rfl]
  rw [e]
  clear e h1 h2 t1 t2
  have heq := fun d w => eqO d w 1 1 o3 0 o4 0 o5 0 o6 0 o7 0 o8 0 o1 0 o2 0
  by_cases a1 : o1 = 0
  ·
   subst a1
   by_cases a2 : o2 = 0
   ·
    subst a2
    go_enter Tryz.func66, Tryz.ntmps66
    go_wp2_with ((go_at_call 29; (with_reducible refine (xeB _ _).mono ?_); rintro e w' ⟨rfl, hw_⟩; obtain rfl := hw_.symm))
    go_ret
    exact ⟨by first | rfl | simp, HB.out⟩
   ·
    have u2 : ((o2 : Int) == 0) = false := by rw [beq_eq_false_iff_ne]; omega
    have HA := Aside0.mk a2;clear a2
    go_enter Tryz.func66, Tryz.ntmps66
    go_wp2_with ((go_at_call 29; (with_reducible refine (xeB _ _).mono ?_); rintro e w' ⟨rfl, hw_⟩; obtain rfl := hw_.symm))
    go_ret
    exact ⟨by simp [HA.out], HB.out⟩
  ·
   have u1 : ((o1 : Int) == 0) = false := by rw [beq_eq_false_iff_ne]; omega
   have HA := Aside0.mk a1;clear a1
   go_enter Tryz.func66, Tryz.ntmps66
   go_wp2_with ((go_at_call 29; (with_reducible refine (xeB _ _).mono ?_); rintro e w' ⟨rfl, hw_⟩; obtain rfl := hw_.symm))
   go_ret
   exact ⟨by simp [HA.out], HB.out⟩
 have t3 : (o0 == 1) = false := by rw [beq_eq_false_iff_ne]; exact h3
 have e : xcC ⟨o0, o1, o2, o3, o4, o5, o6, o7, o8⟩ = ((checkT (treeO ⟨o0, o1, o2, o3, o4, o5, o6, o7, o8⟩)).1 == 0) := by unfold xcC; rw [if_neg (by simp only; omega), if_neg h3]
 rw [e]
 have HR : Aside0 (0 ≤ o0 ∧ o0 < 8) := ⟨by omega⟩
 clear e h1 h2 h3
 go_enter Tryz.func66, Tryz.ntmps66
 go_wp2_with fail
 refine (term_c o0 o1 o2 o3 o4 o5 o6 o7 o8 _ HK1.out HR.out.1 HR.out.2).mono ?_
 rintro e w2 ⟨rfl, hb⟩
 clear c0 c1 c2 c3 c4 c5 c6 c7 c8
 have B2 := Aside0.mk (xaE (xaK B1.out hb) (.cells #[.int .i64 (rdI kindsL o0), .int .i64 0, .int .i64 0, .float .f64 o1, .float .f64 o2, .int .i64 o3, .int .i64 o4, .int .i64 o5, .int .i64 o6, .int .i64 o7, .int .i64 o8] 103))
 have HB2 := Aside0.mk (xaC (HB.out.trans (hb.mono HB.out.size)) (.cells #[.int .i64 (rdI kindsL o0), .int .i64 0, .int .i64 0, .float .f64 o1, .float .f64 o2, .int .i64 o3, .int .i64 o4, .int .i64 o5, .int .i64 o6, .int .i64 o7, .int .i64 o8] 103))
 have HK2 : Aside0 (KT (w2.alloc (.cells #[.int .i64 (rdI kindsL o0), .int .i64 0, .int .i64 0, .float .f64 o1, .float .f64 o2, .int .i64 o3, .int .i64 o4, .int .i64 o5, .int .i64 o6, .int .i64 o7, .int .i64 o8] 103))) := ⟨HK.out.below HB2.out⟩
 obtain ⟨c0, c1, c2, c3, c4, c5, c6, c7, c8, z0, z1, z2, z3, z4, z5, z6, z7, z8⟩ := blk9 B2
 clear z0 z1 z2 z3 z4 z5 z6 z7 z8 hb
 by_cases ha : addsB o0 = true
 ·
  go_wp2_with ((go_at_call 67; (with_reducible refine (adds_c _ _).mono ?_); rintro e w' ⟨rfl, hw_⟩; obtain rfl := hw_.symm; rw [ha]))
  have HA := Aside0.mk ha;clear ha
  refine (xfV [termO ⟨o0, o1, o2, o3, o4, o5, o6, o7, o8⟩] _ 1 _ (lit_C (xgV w2 (termO ⟨o0, o1, o2, o3, o4, o5, o6, o7, o8⟩)))).mono ?_
  rintro e w3 ⟨rfl, hb⟩
  have HB3 := Aside0.mk (HB2.out.trans (hb.mono HB2.out.size))
  clear hb c0 c1 c2 c3 c4 c5 c6 c7 c8
  have et : treeO ⟨o0, o1, o2, o3, o4, o5, o6, o7, o8⟩ = [termO ⟨o0, o1, o2, o3, o4, o5, o6, o7, o8⟩] := by unfold treeO; rw [if_pos HA.out]
  rw [← et]
  clear et
  go_wp2_with fail
  go_ret
  exact ⟨rfl, HB3.out⟩
 ·
  replace ha := Bool.eq_false_iff.2 ha
  go_wp2_with ((go_at_call 67; (with_reducible refine (adds_c _ _).mono ?_); rintro e w' ⟨rfl, hw_⟩; obtain rfl := hw_.symm; rw [ha]))
  have HA := Aside0.mk ha;clear ha
  refine (term_c o0 o1 o2 o3 o4 o5 o6 o7 o8 _ HK2.out HR.out.1 HR.out.2).mono ?_
  rintro e w4 ⟨rfl, hb⟩
  have B4 := Aside0.mk (xaE (xaK B2.out hb) (.cells #[.int .i64 1, .int .i64 0, .int .i64 0, .float .f64 0, .float .f64 0, .int .i64 0, .int .i64 0, .int .i64 0, .int .i64 0, .int .i64 0, .int .i64 0, .int .i64 (rdI kindsL o0), .int .i64 0, .int .i64 0, .float .f64 o1, .float .f64 o2, .int .i64 o3, .int .i64 o4, .int .i64 o5, .int .i64 o6, .int .i64 o7, .int .i64 o8] 103))
  have HB4 := Aside0.mk (xaC (HB2.out.trans (hb.mono HB2.out.size)) (.cells #[.int .i64 1, .int .i64 0, .int .i64 0, .float .f64 0, .float .f64 0, .int .i64 0, .int .i64 0, .int .i64 0, .int .i64 0, .int .i64 0, .int .i64 0, .int .i64 (rdI kindsL o0), .int .i64 0, .int .i64 0, .float .f64 o1, .float .f64 o2, .int .i64 o3, .int .i64 o4, .int .i64 o5, .int .i64 o6, .int .i64 o7, .int .i64 o8] 103))
  clear hb c0 c1 c2 c3 c4 c5 c6 c7 c8
  go_wp2_with fail
  refine (xfV [zeroT, termO ⟨o0, o1, o2, o3, o4, o5, o6, o7, o8⟩] _ 2 _ (C2 zeroT (termO ⟨o0, o1, o2, o3, o4, o5, o6, o7, o8⟩))).mono ?_
  rintro e w5 ⟨rfl, hb⟩
  have HB5 := Aside0.mk (HB4.out.trans (hb.mono HB4.out.size))
  clear hb
  have et : treeO ⟨o0, o1, o2, o3, o4, o5, o6, o7, o8⟩ = [zeroT, termO ⟨o0, o1, o2, o3, o4, o5, o6, o7, o8⟩] := by unfold treeO; rw [if_neg (by rw [HA.out]; decide)]
  rw [← et]
  clear et
  go_wp2_with fail
  go_ret
  exact ⟨rfl, HB5.out⟩
end Go.Proofs.YtkabcgmegljebaaGreatDoor.H
