/- Contracts and facts of functions of the program, joined in one text. -/
import Derived.Test.YtkabcgmegljebaaGreatDoorRGL
import Derived.Test.YtkabcgmegljebaaGreatDoorRGA
import Derived.Test.YtkabcgmegljebaaGreatDoorRGJ
set_option maxHeartbeats 8000000
set_option maxRecDepth 100000
set_option linter.unusedVariables false
set_option linter.unusedSimpArgs false
namespace Go.Proofs.YtkabcgmegljebaaGreatDoor.H
open Go.RowKit Go.Proofs.YtkabcgmegljebaaGreatDoorW.PrintWords Go.Proofs.YtkabcgmegljebaaGreatDoorW.PrintLast Go.Proofs.YtkabcgmegljebaaGreatDoorW.PrintMore
open Go.Proofs.YtkabcgmegljebaaGreatDoor.Q
theorem S1_ {w : World} {b j : Nat} {l : List Int} {v : Int} (h : IB w b l) (hj : j < l.length) (hv : l.getD j 0 = v) : w.cell? ⟨b, j, none⟩ = some (.int .i64 v) := by
  rw [h.cell j hj, ← hv, List.getD_eq_getElem?_getD, List.getElem?_eq_getElem hj]; rfl
theorem fits0 (k a b : Int) (x3 x4 : Nat) (x5 x6 x7 x8 x9 x10 : Int) (i n : Nat) (first deep : List Int) (bf bd : Nat) (w : World) (h1 : IB w bf first) (h2 : IB w bd deep) (hne : bf ≠ bd) (hr : Rows2 n i first deep) (hi : i < n) (hn : n ≤ 1024) (hk : xeJ k = 0) : Calls Tryz.prog 70 #[.agg #[.int .i64 k, .int .i64 a, .int .i64 b, .float .f64 x3, .float .f64 x4, .int .i64 x5, .int .i64 x6, .int .i64 x7, .int .i64 x8, .int .i64 x9, .int .i64 x10], .int .i64 (i : Int), .slice (some ⟨bf, 0, none⟩) n n, .slice (some ⟨bd, 0, none⟩) n n] w fun e w' => e = .returned (.bool (fitsP k a b i first deep).1) ∧ Fr (fun k => k = bf ∨ k = bd) w w' ∧ IB w' bf (fitsP k a b i first deep).2.1 ∧ IB w' bd (fitsP k a b i first deep).2.2 := by
 have e : fitsP k a b i first deep = (a == 0 && b == 0, first, deep) := by unfold fitsP; rw [if_pos hk]
 rw [e]
 have H1 := am h1;have H2 := am h2;have HK := am hk;clear h1 h2 hne hr hi hn e hk
 have B4 := am (xbF w (.cells #[.int .i64 k, .int .i64 a, .int .i64 b, .float .f64 x3, .float .f64 x4, .int .i64 x5, .int .i64 x6, .int .i64 x7, .int .i64 x8, .int .i64 x9, .int .i64 x10] 103))
 have HB := am (xaH (Below.refl w.heap.size w) (.cells #[.int .i64 k, .int .i64 a, .int .i64 b, .float .f64 x3, .float .f64 x4, .int .i64 x5, .int .i64 x6, .int .i64 x7, .int .i64 x8, .int .i64 x9, .int .i64 x10] 103))
 obtain ⟨⟨c0, c1, c2, c3, c4, c5, c6, c7, c8, c9, c10⟩, z_⟩ := blk11 B4
 clear c3 c4 c5 c6 c7 c8 c9 c10 z_
 by_cases ha : (a == 0) = true
 ·
  go_enter Tryz.func70, Tryz.ntmps70
  go_wp2_with (first | (go_at_call 47; (with_reducible refine (xdY _ _).mono ?_); rintro e w' ⟨rfl, hw_⟩; obtain rfl := hw_.symm; rw [HK.out]))
  go_ret
  exact ⟨by simp [ha], (Fr.refl _ w).below HB.out, H1.out.below HB.out, H2.out.below HB.out⟩
 ·
  replace ha := Bool.eq_false_iff.2 ha
  go_enter Tryz.func70, Tryz.ntmps70
  go_wp2_with (first | (go_at_call 47; (with_reducible refine (xdY _ _).mono ?_); rintro e w' ⟨rfl, hw_⟩; obtain rfl := hw_.symm; rw [HK.out]))
  go_ret
  exact ⟨by simp [ha], (Fr.refl _ w).below HB.out, H1.out.below HB.out, H2.out.below HB.out⟩
theorem fits1 (k a b : Int) (x3 x4 : Nat) (x5 x6 x7 x8 x9 x10 : Int) (i n : Nat) (first deep : List Int) (bf bd : Nat) (w : World) (h1 : IB w bf first) (h2 : IB w bd deep) (hne : bf ≠ bd) (hr : Rows2 n i first deep) (hi : i < n) (hn : n ≤ 1024) (hk : xeJ k = 1) : Calls Tryz.prog 70 #[.agg #[.int .i64 k, .int .i64 a, .int .i64 b, .float .f64 x3, .float .f64 x4, .int .i64 x5, .int .i64 x6, .int .i64 x7, .int .i64 x8, .int .i64 x9, .int .i64 x10], .int .i64 (i : Int), .slice (some ⟨bf, 0, none⟩) n n, .slice (some ⟨bd, 0, none⟩) n n] w fun e w' => e = .returned (.bool (fitsP k a b i first deep).1) ∧ Fr (fun k => k = bf ∨ k = bd) w w' ∧ IB w' bf (fitsP k a b i first deep).2.1 ∧ IB w' bd (fitsP k a b i first deep).2.2 := by
 have e : fitsP k a b i first deep = (if i = 0 ∨ a ≠ (i : Int) - 1 ∨ b ≠ 0 then (false, first, deep) else (true, first.set i (rdI first ((i : Int) - 1)), deep.set i (rdI deep ((i : Int) - 1) + 1))) := by unfold fitsP; rw [if_neg (by omega), if_pos hk]
 rw [e]
 have H1 := am h1;have H2 := am h2;have HK := am hk;have HR := am hr;have HNE := am hne
 have HI := am (And.intro hi hn)
 clear h1 h2 e hk hr hne
 have hwr : IntKind.i64.wrap ((i : Int) - 1) = (i : Int) - 1 := by rw [i64_w]; unfold wrap64; omega
 have B4 := am (xbF w (.cells #[.int .i64 k, .int .i64 a, .int .i64 b, .float .f64 x3, .float .f64 x4, .int .i64 x5, .int .i64 x6, .int .i64 x7, .int .i64 x8, .int .i64 x9, .int .i64 x10] 103))
 have HB := am (xaH (Below.refl w.heap.size w) (.cells #[.int .i64 k, .int .i64 a, .int .i64 b, .float .f64 x3, .float .f64 x4, .int .i64 x5, .int .i64 x6, .int .i64 x7, .int .i64 x8, .int .i64 x9, .int .i64 x10] 103))
 obtain ⟨⟨c0, c1, c2, c3, c4, c5, c6, c7, c8, c9, c10⟩, z_⟩ := blk11 B4
 clear c3 c4 c5 c6 c7 c8 c9 c10 z_
 by_cases q0 : i = 0
 ·
  subst q0
  rw [if_pos (Or.inl rfl)]
  go_enter Tryz.func70, Tryz.ntmps70
  go_wp2_with (first | (go_at_call 47; (with_reducible refine (xdY _ _).mono ?_); rintro e w' ⟨rfl, hw_⟩; obtain rfl := hw_.symm; rw [HK.out]))
  go_ret
  exact ⟨rfl, (Fr.refl _ w).below HB.out, H1.out.below HB.out, H2.out.below HB.out⟩
 have t0 : ((i : Int) == 0) = false := by rw [beq_eq_false_iff_ne]; omega
 by_cases q1 : a = (i : Int) - 1
 rotate_left
 ·
  have t1 : (a != (i : Int) - 1) = true := by rw [bne, beq_eq_false_iff_ne.2 q1]; rfl
  rw [if_pos (Or.inr (Or.inl q1))]
  go_enter Tryz.func70, Tryz.ntmps70
  go_wp2_with (first | (go_at_call 47; (with_reducible refine (xdY _ _).mono ?_); rintro e w' ⟨rfl, hw_⟩; obtain rfl := hw_.symm; rw [HK.out]))
  go_ret
  exact ⟨rfl, (Fr.refl _ w).below HB.out, H1.out.below HB.out, H2.out.below HB.out⟩
 subst q1
 by_cases q2 : b = 0
 rotate_left
 ·
  have t2 : (b != 0) = true := by rw [bne, beq_eq_false_iff_ne.2 q2]; rfl
  rw [if_pos (Or.inr (Or.inr q2))]
  go_enter Tryz.func70, Tryz.ntmps70
  go_wp2_with (first | (go_at_call 47; (with_reducible refine (xdY _ _).mono ?_); rintro e w' ⟨rfl, hw_⟩; obtain rfl := hw_.symm; rw [HK.out]))
  go_ret
  exact ⟨rfl, (Fr.refl _ w).below HB.out, H1.out.below HB.out, H2.out.below HB.out⟩
 subst q2
 rw [if_neg (by rintro (h | h | h); exact q0 h; exact h rfl; exact h rfl)]
 go_enter Tryz.func70, Tryz.ntmps70
 go_wp2_with (first | (go_at_call 47; (with_reducible refine (xdY _ _).mono ?_); rintro e w' ⟨rfl, hw_⟩; obtain rfl := hw_.symm; rw [HK.out]))
 clear c0 c1 c2 t0
 replace H1 := am (H1.out.below HB.out)
 replace H2 := am (H2.out.below HB.out)
 generalize w.alloc (.cells #[.int .i64 k, .int .i64 ((i : Int) - 1), .int .i64 0, .float .f64 x3, .float .f64 x4, .int .i64 x5, .int .i64 x6, .int .i64 x7, .int .i64 x8, .int .i64 x9, .int .i64 x10] 103) = w1 at *
 have HF := HR.out.lf;have HD := HR.out.ld
 have hf0 := H1.out.rd ((i : Int) - 1) (by omega) (by omega)
 have hd0 := H2.out.rd ((i : Int) - 1) (by omega) (by omega)
 have hdb : 0 ≤ rdI deep ((i : Int) - 1) ∧ rdI deep ((i : Int) - 1) ≤ 2000 := by have h3 := HR.out.d ((i : Int) - 1).toNat (by omega); unfold rdI; omega
 generalize hfv : rdI first ((i : Int) - 1) = fv at *
 generalize hdv : rdI deep ((i : Int) - 1) = dv at *
 have HFV := am hfv;have HDV := am hdv;clear hfv hdv
 have hwd : IntKind.i64.wrap (dv + 1) = dv + 1 := by rw [i64_w]; unfold wrap64; omega
 have g1 : 0 ≤ (i : Int) - 1 := by omega
 have g2 : (i : Int) - 1 < n := by omega
 have g3 : (i : Int) < n := by omega
 have g4 : (1 : Int) ≤ (i : Int) := by omega
 have hti : ((i : Int) - 1).toNat = i - 1 := by omega
 rw [hti] at hf0 hd0
 clear hti
 refine xcA ?_
 refine xbL (n := 19) (S := fun w' => w'.cell? ⟨bf, i - 1, none⟩ = some (.int .i64 fv) ∧ w'.cell? ⟨bd, i - 1, none⟩ = some (.int .i64 dv)) (ds := []) #[false, false, false, false, false, false, false, false, false, false, false, false, false, false, false, false, false, false, false] (by kernel_rfl) rfl rfl ⟨hf0, hd0⟩ (fun hHeld => ?_)
 replace H1 : xaA (IB w1.drew bf first) := ⟨xaP H1.out⟩
 replace H2 : xaA (IB w1.drew bd deep) := ⟨xaP H2.out⟩
 replace HB := am (xaK HB.out)
 generalize w1.drew = w2 at *
 refine rP 0 ?_
 refine rP 1 ?_
 refine rP 2 ?_
 refine rP 3 ?_
 refine rP 4 ?_
 refine rP 5 ?_
 refine rP 6 ?_
 refine rP 7 ?_
 refine rT 8 ?_
 refine rP 9 ?_
 refine rP 10 ?_
 refine rP 11 ?_
 refine rP 12 ?_
 refine rT 13 ?_
 refine rP 14 ?_
 clear hHeld
 have hsi : ∀ (l : List Int) (v : Int), (i - 1 < l.length) → (l.set i v).getD (i - 1) 0 = l.getD (i - 1) 0 := fun l v hl => by simp [List.getD_eq_getElem?_getD, List.getElem?_set, show i ≠ i - 1 by omega]
 have hfg : first.getD (i - 1) 0 = fv := by have h3 := HFV.out; unfold rdI at h3; rw [show ((i : Int) - 1).toNat = i - 1 by omega] at h3; exact h3
 have hdg : deep.getD (i - 1) 0 = dv := by have h3 := HDV.out; unfold rdI at h3; rw [show ((i : Int) - 1).toNat = i - 1 by omega] at h3; exact h3
 have HFG := am hfg;have HDG := am hdg;have HSI := am hsi;clear hfg hdg hsi
 refine rP 15 ?_
 have s0 := H1.out.cell i (by omega)
 have s1 := H1.out.frozen i
 refine rO 16 (fun K hK => ?_)
 refine skip_ (w1 := ?_) (by rfl) rfl ?_ ?_
 rotate_left
 ·
  go_simp
  rfl
 have K1 := am (H1.out.put i fv)
 have K2 : xaA (IB (w2.setCell ⟨bf, i, none⟩ (.int .i64 fv)) bd deep) := ⟨H2.out.other (fun e => HNE.out e.symm) i (.int .i64 fv)⟩
 refine hK.out _ _ (⟨S1_ K1.out (by first | omega | (simp; omega)) (by first | (rw [HSI.out _ _ (by omega)]; exact HFG.out) | exact HFG.out), S1_ K2.out (by first | omega | (simp; omega)) (by first | (rw [HSI.out _ _ (by omega)]; exact HDG.out) | exact HDG.out)⟩) (fun hHeld => ?_)
 clear hK K s0 s1 hHeld
 refine rP 17 ?_
 have s0 := K2.out.cell i (by omega)
 have s1 := K2.out.frozen i
 refine rO 18 (fun K hK => ?_)
 refine skip_ (w1 := ?_) (by rfl) rfl ?_ ?_
 rotate_left
 ·
  go_simp
  rfl
 have J2 := am (K2.out.put i (dv + 1))
 have J1 := am (K1.out.other HNE.out i (.int .i64 (dv + 1)))
 refine hK.out _ _ (⟨S1_ J1.out (by first | omega | (simp; omega)) (by first | (rw [HSI.out _ _ (by omega)]; exact HFG.out) | exact HFG.out), S1_ J2.out (by first | omega | (simp; omega)) (by first | (rw [HSI.out _ _ (by omega)]; exact HDG.out) | exact HDG.out)⟩) (fun hHeld => ?_)
 clear hK K s0 s1 hHeld
 refine rD ?_
 go_wp2_with fail
 go_ret
 exact ⟨rfl, (((Fr.refl (fun k => k = bf ∨ k = bd) w).below HB.out).set _ (Or.inl (Or.inl rfl))).set _ (Or.inl (Or.inr rfl)), by rw [HFV.out]; exact J1.out, by rw [HDV.out]; exact J2.out⟩
theorem fits2 (k a b : Int) (x3 x4 : Nat) (x5 x6 x7 x8 x9 x10 : Int) (i n : Nat) (first deep : List Int) (bf bd : Nat) (w : World) (h1 : IB w bf first) (h2 : IB w bd deep) (hne : bf ≠ bd) (hr : Rows2 n i first deep) (hi : i < n) (hn : n ≤ 1024) (hk : xeJ k = 2) : Calls Tryz.prog 70 #[.agg #[.int .i64 k, .int .i64 a, .int .i64 b, .float .f64 x3, .float .f64 x4, .int .i64 x5, .int .i64 x6, .int .i64 x7, .int .i64 x8, .int .i64 x9, .int .i64 x10], .int .i64 (i : Int), .slice (some ⟨bf, 0, none⟩) n n, .slice (some ⟨bd, 0, none⟩) n n] w fun e w' => e = .returned (.bool (fitsP k a b i first deep).1) ∧ Fr (fun k => k = bf ∨ k = bd) w w' ∧ IB w' bf (fitsP k a b i first deep).2.1 ∧ IB w' bd (fitsP k a b i first deep).2.2 := by
 have e : fitsP k a b i first deep = (if i = 0 ∨ b ≠ (i : Int) - 1 ∨ rdI first ((i : Int) - 1) = 0 ∨ a ≠ rdI first ((i : Int) - 1) - 1 then (false, first, deep) else (true, first.set i (rdI first a), deep.set i (max (rdI deep a) (rdI deep b) + 1))) := by unfold fitsP; rw [if_neg (by omega), if_neg (by omega)]
 rw [e]
 have H1 := am h1;have H2 := am h2;have HK := am hk;have HR := am hr;have HNE := am hne
 have HI := am (And.intro hi hn)
 clear h1 h2 e hk hr hne
 have hwr : IntKind.i64.wrap ((i : Int) - 1) = (i : Int) - 1 := by rw [i64_w]; unfold wrap64; omega
 have B4 := am (xbF w (.cells #[.int .i64 k, .int .i64 a, .int .i64 b, .float .f64 x3, .float .f64 x4, .int .i64 x5, .int .i64 x6, .int .i64 x7, .int .i64 x8, .int .i64 x9, .int .i64 x10] 103))
 have HB := am (xaH (Below.refl w.heap.size w) (.cells #[.int .i64 k, .int .i64 a, .int .i64 b, .float .f64 x3, .float .f64 x4, .int .i64 x5, .int .i64 x6, .int .i64 x7, .int .i64 x8, .int .i64 x9, .int .i64 x10] 103))
 obtain ⟨⟨c0, c1, c2, c3, c4, c5, c6, c7, c8, c9, c10⟩, z_⟩ := blk11 B4
 clear c3 c4 c5 c6 c7 c8 c9 c10 z_
 by_cases q0 : i = 0
 ·
  subst q0
  rw [if_pos (Or.inl rfl)]
  go_enter Tryz.func70, Tryz.ntmps70
  go_wp2_with (first | (go_at_call 47; (with_reducible refine (xdY _ _).mono ?_); rintro e w' ⟨rfl, hw_⟩; obtain rfl := hw_.symm; rw [HK.out]))
  go_quiet (fail)
  go_wp2_with fail
  go_ret
  exact ⟨rfl, (Fr.refl _ w).below (xaG HB.out _), (H1.out.below HB.out).below (xaG (Below.refl _ _) _), (H2.out.below HB.out).below (xaG (Below.refl _ _) _)⟩
 have t0 : ((i : Int) == 0) = false := by rw [beq_eq_false_iff_ne]; omega
 by_cases q1 : b = (i : Int) - 1
 rotate_left
 ·
  have t1 : (b != (i : Int) - 1) = true := by rw [bne, beq_eq_false_iff_ne.2 q1]; rfl
  rw [if_pos (Or.inr (Or.inl q1))]
  go_enter Tryz.func70, Tryz.ntmps70
  go_wp2_with (first | (go_at_call 47; (with_reducible refine (xdY _ _).mono ?_); rintro e w' ⟨rfl, hw_⟩; obtain rfl := hw_.symm; rw [HK.out]))
  go_quiet (fail)
  go_wp2_with fail
  go_ret
  exact ⟨rfl, (Fr.refl _ w).below (xaG HB.out _), (H1.out.below HB.out).below (xaG (Below.refl _ _) _), (H2.out.below HB.out).below (xaG (Below.refl _ _) _)⟩
 have t1 : (b != (i : Int) - 1) = false := by rw [bne, beq_iff_eq.2 q1]; rfl
 have HQ1 := am q1;have HF := HR.out.lf;have HD := HR.out.ld
 have hfb : 0 ≤ rdI first ((i : Int) - 1) ∧ rdI first ((i : Int) - 1) ≤ (i : Int) - 1 := by have h3 := HR.out.f ((i : Int) - 1).toNat (by omega); unfold rdI; omega
 have hf0 := (H1.out.below HB.out).rd ((i : Int) - 1) (by omega) (by omega)
 have hti : ((i : Int) - 1).toNat = i - 1 := by omega
 rw [hti] at hf0
 clear hti
 obtain ⟨fv, hfv⟩ : ∃ v, v = rdI first ((i : Int) - 1) := ⟨_, rfl⟩
 rw [← hfv] at hf0 hfb ⊢
 have HFV := am hfv
 have g4 : (1 : Int) ≤ (i : Int) := by omega
 have g3 : (i : Int) < n := by omega
 have g2 : (i : Int) - 1 < n := by omega
 have g1 : (0 : Int) ≤ (i : Int) - 1 := by omega
 have hwf : IntKind.i64.wrap (fv - 1) = fv - 1 := by rw [i64_w]; unfold wrap64; omega
 clear q1 hfv
 by_cases q2 : fv = 0
 ·
  have t2 : (fv == 0) = true := beq_iff_eq.2 q2
  have HQ2 := am q2;clear q2
  rw [if_pos (Or.inr (Or.inr (Or.inl HQ2.out)))]
  go_enter Tryz.func70, Tryz.ntmps70
  go_wp2_with (first | (go_at_call 47; (with_reducible refine (xdY _ _).mono ?_); rintro e w' ⟨rfl, hw_⟩; obtain rfl := hw_.symm; rw [HK.out]))
  go_quiet (fail)
  go_wp2_with fail
  go_ret
  exact ⟨rfl, (Fr.refl _ w).below (xaG HB.out _), (H1.out.below HB.out).below (xaG (Below.refl _ _) _), (H2.out.below HB.out).below (xaG (Below.refl _ _) _)⟩
 have t2 : (fv == 0) = false := by rw [beq_eq_false_iff_ne]; exact q2
 by_cases q3 : a = fv - 1
 rotate_left
 ·
  have t3 : (a != fv - 1) = true := by rw [bne, beq_eq_false_iff_ne.2 q3]; rfl
  rw [if_pos (Or.inr (Or.inr (Or.inr q3)))]
  go_enter Tryz.func70, Tryz.ntmps70
  go_wp2_with (first | (go_at_call 47; (with_reducible refine (xdY _ _).mono ?_); rintro e w' ⟨rfl, hw_⟩; obtain rfl := hw_.symm; rw [HK.out]))
  go_quiet (fail)
  go_wp2_with fail
  go_ret
  exact ⟨rfl, (Fr.refl _ w).below (xaG HB.out _), (H1.out.below HB.out).below (xaG (Below.refl _ _) _), (H2.out.below HB.out).below (xaG (Below.refl _ _) _)⟩
 have t3 : (a != fv - 1) = false := by rw [bne, beq_iff_eq.2 q3]; rfl
 have HQ3 := am q3
 have ha0 : 0 ≤ a := by omega
 have ha1 : a < n := by omega
 have hai : a < (i : Int) := by omega
 have hb0 : 0 ≤ b := by have := HQ1.out; omega
 have hb1 : b < n := by have := HQ1.out; omega
 have hbi : b < (i : Int) := by have := HQ1.out; omega
 rw [if_neg (by rintro (h | h | h | h); exact q0 h; exact h HQ1.out; exact q2 h; exact h HQ3.out)]
 clear q3 q2
 go_enter Tryz.func70, Tryz.ntmps70
 go_wp2_with (first | (go_at_call 47; (with_reducible refine (xdY _ _).mono ?_); rintro e w' ⟨rfl, hw_⟩; obtain rfl := hw_.symm; rw [HK.out]))
 go_quiet (fail)
 go_wp2_with fail
 have hba := HR.out.d a.toNat (by omega)
 have hbb := HR.out.d b.toNat (by omega)
 have f0 := (H1.out.below HB.out).rd a (by omega) (by omega)
 have f1 := (H2.out.below HB.out).rd a (by omega) (by omega)
 have f2 := (H2.out.below HB.out).rd b (by omega) (by omega)
 clear t0 t1 t2 t3 hf0 g1 g2 g4 hwf hwr
 replace HB := am (xaG HB.out nq)
 have hzz : bf < w.heap.size ∧ bd < w.heap.size := ⟨H1.out.lt, H2.out.lt⟩
 replace H1 := am (H1.out.below HB.out)
 replace H2 := am (H2.out.below HB.out)
 obtain ⟨b4, hb4⟩ : ∃ q, q = w.heap.size := ⟨_, rfl⟩
 have HB4 : xaA (bf ≠ b4 ∧ bd ≠ b4) := ⟨by omega⟩
 rw [← hb4] at c0 c1 c2 B4 ⊢
 clear hb4 hzz
 replace B4 := am (xaZ B4.out nq)
 generalize (w.alloc (.cells #[.int .i64 k, .int .i64 a, .int .i64 b, .float .f64 x3, .float .f64 x4, .int .i64 x5, .int .i64 x6, .int .i64 x7, .int .i64 x8, .int .i64 x9, .int .i64 x10] 103)).drewN nq = w1 at *
 obtain ⟨fa, hfa⟩ : ∃ v, v = rdI first a := ⟨_, rfl⟩
 obtain ⟨da, hda⟩ : ∃ v, v = rdI deep a := ⟨_, rfl⟩
 obtain ⟨db, hdb⟩ : ∃ v, v = rdI deep b := ⟨_, rfl⟩
 have hmb : 0 ≤ max da db ∧ max da db ≤ 2000 := by have e1 : rdI deep a = deep.getD a.toNat 0 := rfl; have e2 : rdI deep b = deep.getD b.toNat 0 := rfl; omega
 obtain ⟨mx, hmx⟩ : ∃ v, v = max da db := ⟨_, rfl⟩
 rw [← hmx] at hmb
 have hwd : IntKind.i64.wrap (mx + 1) = mx + 1 := by rw [i64_w]; unfold wrap64; omega
 have hme : (if da < db then db else da) = mx := by rw [hmx, Int.max_def]; split <;> split <;> omega
 have HMX := am hmx;clear hmx;have HFA := am hfa;have HDA := am hda;have HDB := am hdb;have HBA := am hba;have HBB := am hbb;clear hfa hda hdb hba hbb
 refine xcA ?_
 have hA1 : first.getD a.toNat 0 = fa := HFA.out.symm
 have hA2 : deep.getD a.toNat 0 = da := HDA.out.symm
 have hA3 : deep.getD b.toNat 0 = db := HDB.out.symm
 have HA : xaA (first.getD a.toNat 0 = fa ∧ deep.getD a.toNat 0 = da ∧ deep.getD b.toNat 0 = db) := ⟨hA1, hA2, hA3⟩
 clear hA1 hA2 hA3
 have HSI : xaA (∀ (l : List Int) (v : Int) (z : Nat), z < i → (l.set i v).getD z 0 = l.getD z 0) := ⟨fun l v z hz => by simp [List.getD_eq_getElem?_getD, List.getElem?_set, show i ≠ z by omega]⟩
 refine xbL (n := 25) (S := fun w' => w'.cell? ⟨b4, 1, none⟩ = some (.int .i64 a) ∧ w'.cell? ⟨b4, 2, none⟩ = some (.int .i64 b) ∧ w'.cell? ⟨bf, a.toNat, none⟩ = some (.int .i64 fa) ∧ w'.cell? ⟨bd, a.toNat, none⟩ = some (.int .i64 da) ∧ w'.cell? ⟨bd, b.toNat, none⟩ = some (.int .i64 db)) (ds := []) #[false, false, false, false, false, false, false, false, false, false, false, false, false, false, false, false, false, false, false, false, false, false, false, false, false] (by kernel_rfl) rfl rfl ⟨(xaB B4.out 1).trans rfl, (xaB B4.out 2).trans rfl, S1_ H1.out (by omega) HA.out.1, S1_ H2.out (by omega) HA.out.2.1, S1_ H2.out (by omega) HA.out.2.2⟩ (fun hHeld => ?_)
 replace H1 : xaA (IB w1.drew bf first) := ⟨xaP H1.out⟩
 replace H2 : xaA (IB w1.drew bd deep) := ⟨xaP H2.out⟩
 replace HB := am (xaK HB.out)
 replace B4 := am (xaP B4.out)
 generalize w1.drew = w2 at *
 clear f0 f1 f2 c0 c1 c2
 refine rP 0 ?_
 refine rP 1 ?_
 refine rP 2 ?_
 refine rP 3 ?_
 refine rP 4 ?_
 refine rP 5 ?_
 refine rT 6 ?_
 refine rP 7 ?_
 refine rT 8 ?_
 refine rP 9 ?_
 refine rP 10 ?_
 refine rT 11 ?_
 refine rP 12 ?_
 refine rT 13 ?_
 refine rP 14 ?_
 refine rP 15 ?_
 refine rT 16 ?_
 refine rP 17 ?_
 refine rT 18 ?_
 refine rP 19 ?_
 refine rP 20 ?_
 clear hHeld
 refine rP 21 ?_
 have s0 := H1.out.cell i (by omega)
 have s1 := H1.out.frozen i
 refine rO 22 (fun K hK => ?_)
 refine skip_ (w1 := ?_) (by rfl) rfl ?_ ?_
 rotate_left
 ·
  go_simp
  rfl
 have K1 := am (H1.out.put i fa)
 have K2 : xaA (IB (w2.setCell ⟨bf, i, none⟩ (.int .i64 fa)) bd deep) := ⟨H2.out.other (fun e => HNE.out e.symm) i (.int .i64 fa)⟩
 have X4 : xaA ((w2.setCell ⟨bf, i, none⟩ (.int .i64 fa)).heap[b4]? = some (.cells #[.int .i64 k, .int .i64 a, .int .i64 b, .float .f64 x3, .float .f64 x4, .int .i64 x5, .int .i64 x6, .int .i64 x7, .int .i64 x8, .int .i64 x9, .int .i64 x10] 103 (0, 0))) := ⟨(Below.heap_setCell _ _ _ _ HB4.out.1.symm).trans B4.out⟩
 refine hK.out _ _ (⟨(xaB X4.out 1).trans rfl, (xaB X4.out 2).trans rfl, S1_ K1.out (by first | omega | (simp; omega)) (by rw [HSI.out _ _ _ (by omega)]; exact HA.out.1), S1_ K2.out (by first | omega | (simp; omega)) (by first | (rw [HSI.out _ _ _ (by omega)]; exact HA.out.2.1) | exact HA.out.2.1), S1_ K2.out (by first | omega | (simp; omega)) (by first | (rw [HSI.out _ _ _ (by omega)]; exact HA.out.2.2) | exact HA.out.2.2)⟩) (fun hHeld => ?_)
 clear hK K s0 s1 hHeld
 refine rP 23 ?_
 have s0 := K2.out.cell i (by omega)
 have s1 := K2.out.frozen i
 refine rO 24 (fun K hK => ?_)
 refine skip_ (w1 := ?_) (by rfl) rfl ?_ ?_
 rotate_left
 ·
  go_simp
  rfl
 have J2 := am (K2.out.put i (mx + 1))
 have J1 := am (K1.out.other HNE.out i (.int .i64 (mx + 1)))
 replace X4 : xaA (((w2.setCell ⟨bf, i, none⟩ (.int .i64 fa)).setCell ⟨bd, i, none⟩ (.int .i64 (mx + 1))).heap[b4]? = some (.cells #[.int .i64 k, .int .i64 a, .int .i64 b, .float .f64 x3, .float .f64 x4, .int .i64 x5, .int .i64 x6, .int .i64 x7, .int .i64 x8, .int .i64 x9, .int .i64 x10] 103 (0, 0))) := ⟨(Below.heap_setCell _ _ _ _ HB4.out.2.symm).trans X4.out⟩
 refine hK.out _ _ (⟨(xaB X4.out 1).trans rfl, (xaB X4.out 2).trans rfl, S1_ J1.out (by first | omega | (simp; omega)) (by rw [HSI.out _ _ _ (by omega)]; exact HA.out.1), S1_ J2.out (by first | omega | (simp; omega)) (by first | (rw [HSI.out _ _ _ (by omega)]; exact HA.out.2.1) | exact HA.out.2.1), S1_ J2.out (by first | omega | (simp; omega)) (by first | (rw [HSI.out _ _ _ (by omega)]; exact HA.out.2.2) | exact HA.out.2.2)⟩) (fun hHeld => ?_)
 clear hK K s0 s1 hHeld
 refine rD ?_
 go_wp2_with fail
 go_ret
 exact ⟨rfl, (((Fr.refl (fun k => k = bf ∨ k = bd) w).below HB.out).set _ (Or.inl (Or.inl rfl))).set _ (Or.inl (Or.inr rfl)), by rw [← HFA.out]; exact J1.out, by rw [← HDA.out, ← HDB.out, ← HMX.out]; exact J2.out⟩
theorem parts_012 (k : Int) : xeJ k = 0 ∨ xeJ k = 1 ∨ xeJ k = 2 := by
 unfold xeJ
 by_cases h : k = 1 ∨ k = 2 ∨ k = 3
 ·
  rw [if_pos h]; exact Or.inl rfl
 ·
  rw [if_neg h]
  by_cases h5 : k = 5
  ·
   rw [if_pos h5]; exact Or.inr (Or.inr rfl)
  ·
   rw [if_neg h5]; exact Or.inr (Or.inl rfl)
theorem fits_c (k a b : Int) (x3 x4 : Nat) (x5 x6 x7 x8 x9 x10 : Int) (i n : Nat) (first deep : List Int) (bf bd : Nat) (w : World) (h1 : IB w bf first) (h2 : IB w bd deep) (hne : bf ≠ bd) (hr : Rows2 n i first deep) (hi : i < n) (hn : n ≤ 1024) :
  Calls Tryz.prog 70 #[.agg #[.int .i64 k, .int .i64 a, .int .i64 b, .float .f64 x3, .float .f64 x4, .int .i64 x5, .int .i64 x6, .int .i64 x7, .int .i64 x8, .int .i64 x9, .int .i64 x10], .int .i64 (i : Int), .slice (some ⟨bf, 0, none⟩) n n, .slice (some ⟨bd, 0, none⟩) n n] w fun e w' => e = .returned (.bool (fitsP k a b i first deep).1) ∧ Fr (fun k => k = bf ∨ k = bd) w w' ∧ IB w' bf (fitsP k a b i first deep).2.1 ∧ IB w' bd (fitsP k a b i first deep).2.2 := by
 rcases parts_012 k with h | h | h
 ·
  exact fits0 _ _ _ _ _ _ _ _ _ _ _ _ _ _ _ _ _ w h1 h2 hne hr hi hn h
 ·
  exact fits1 _ _ _ _ _ _ _ _ _ _ _ _ _ _ _ _ _ w h1 h2 hne hr hi hn h
 ·
  exact fits2 _ _ _ _ _ _ _ _ _ _ _ _ _ _ _ _ _ w h1 h2 hne hr hi hn h
def put2 (i : Nat) (fd : List Int × List Int) : List Int × List Int := (fd.1.set i (i : Int), fd.2.set i 1)
def ckGo : List S103 → Nat → List Int → List Int → Option Nat × List Int × List Int
  | [], _, f, d => (none, f, d)
  | x :: r, i, f, d => if (fieldsB x && (fitsP x.f0 x.f1 x.f2 i (f.set i (i : Int)) (d.set i 1)).1) = true then ckGo r (i + 1) (fitsP x.f0 x.f1 x.f2 i (f.set i (i : Int)) (d.set i 1)).2.1 (fitsP x.f0 x.f1 x.f2 i (f.set i (i : Int)) (d.set i 1)).2.2 else (some i, f, d)
def xbZ (t : List S103) : Int × Int :=
 if 1024 < t.length then (2, 0) else if t.length = 0 then (171, 0)
 else match (ckGo t 0 (List.replicate t.length 0) (List.replicate t.length 0)) with
  | (some i, _, _) => (171, (i : Int))
  | (none, f, d) => if rdI f ((t.length : Int) - 1) ≠ 0 then (171, (t.length : Int) - 1) else if 64 < rdI d ((t.length : Int) - 1) then (172, (t.length : Int) - 1) else (0, 0)
theorem xcT (l : List Int) (i j : Nat) (v : Int) : (l.set i v).getD j 0 = if i = j ∧ i < l.length then v else l.getD j 0 := by
 rw [List.getD_eq_getElem?_getD, List.getD_eq_getElem?_getD, List.getElem?_set]
 by_cases h : i = j
 ·
  subst h
  by_cases h2 : i < l.length
  ·
   simp [h2]
  ·
   simp [h2]
 ·
  simp [h]
theorem rows_put {n i : Nat} {f d : List Int} (h : Rows2 n i f d) (hi : i < n) : Rows2 n (i + 1) (f.set i (i : Int)) (d.set i 1) := by
 refine ⟨by rw [List.length_set]; exact h.lf, by rw [List.length_set]; exact h.ld, fun j hj => ?_, fun j hj => ?_⟩
 ·
  rw [xcT]
  by_cases hij : i = j
  ·
   subst hij; rw [if_pos ⟨rfl, by rw [h.lf]; exact hi⟩]; omega
  ·
   rw [if_neg (fun q => hij q.1)]; exact h.f j (by omega)
 ·
  rw [xcT]
  by_cases hij : i = j
  ·
   subst hij; rw [if_pos ⟨rfl, by rw [h.ld]; exact hi⟩]; omega
  ·
   rw [if_neg (fun q => hij q.1)]; exact h.d j (by omega)
theorem rows_fits {n i : Nat} {f d : List Int} (k a b : Int) (h : Rows2 n (i + 1) f d) (hi : i < n) (ho : (fitsP k a b i f d).1 = true) : Rows2 n (i + 1) (fitsP k a b i f d).2.1 (fitsP k a b i f d).2.2 := by
 have hset : ∀ (u v : Int), 0 ≤ u → u ≤ (i : Int) → 0 ≤ v → v ≤ (i : Int) + 1 → Rows2 n (i + 1) (f.set i u) (d.set i v) := fun u v h1 h2 h3 h4 => by
  refine ⟨by rw [List.length_set]; exact h.lf, by rw [List.length_set]; exact h.ld, fun j hj => ?_, fun j hj => ?_⟩
  ·
   rw [xcT]
   by_cases hij : i = j
   ·
    subst hij; rw [if_pos ⟨rfl, by rw [h.lf]; exact hi⟩]; omega
   ·
    rw [if_neg (fun q => hij q.1)]; exact h.f j hj
  ·
   rw [xcT]
   by_cases hij : i = j
   ·
    subst hij; rw [if_pos ⟨rfl, by rw [h.ld]; exact hi⟩]; omega
   ·
    rw [if_neg (fun q => hij q.1)]; exact h.d j hj
 unfold fitsP at ho ⊢
 by_cases h0 : xeJ k = 0
 ·
  rw [if_pos h0]; exact h
 rw [if_neg h0] at ho ⊢
 by_cases h1 : xeJ k = 1
 ·
  rw [if_pos h1] at ho ⊢
  by_cases h2 : i = 0 ∨ a ≠ (i : Int) - 1 ∨ b ≠ 0
  ·
   rw [if_pos h2]; exact h
  ·
   rw [if_neg h2]
   have hi0 : i ≠ 0 := fun e => h2 (Or.inl e)
   have h5 := h.f (i - 1) (by omega)
   have h6 := h.d (i - 1) (by omega)
   have e : ((i : Int) - 1).toNat = i - 1 := by omega
   refine hset _ _ ?_ ?_ ?_ ?_ <;> (unfold rdI; rw [e]; omega)
 rw [if_neg h1] at ho ⊢
 by_cases h2 : i = 0 ∨ b ≠ (i : Int) - 1 ∨ rdI f ((i : Int) - 1) = 0 ∨ a ≠ rdI f ((i : Int) - 1) - 1
 ·
  rw [if_pos h2]; exact h
 ·
  rw [if_neg h2]
  have hi0 : i ≠ 0 := fun e => h2 (Or.inl e)
  have hb : b = (i : Int) - 1 := Classical.byContradiction fun e => h2 (Or.inr (Or.inl e))
  have hf : rdI f ((i : Int) - 1) ≠ 0 := fun e => h2 (Or.inr (Or.inr (Or.inl e)))
  have ha : a = rdI f ((i : Int) - 1) - 1 := Classical.byContradiction fun e => h2 (Or.inr (Or.inr (Or.inr e)))
  have e : ((i : Int) - 1).toNat = i - 1 := by omega
  have h5 := h.f (i - 1) (by omega)
  have h6 : rdI f ((i : Int) - 1) = f.getD (i - 1) 0 := by unfold rdI; rw [e]
  have h7 := h.f a.toNat (by omega)
  have h8 := h.d a.toNat (by omega)
  have h9 := h.d b.toNat (by omega)
  refine hset _ _ ?_ ?_ ?_ ?_ <;> (unfold rdI; omega)
theorem run_ints (w : World) (n : Nat) (hn : n ≤ 100000) : (Instr.makeSlice 49 (.int .i64 (n : Int)) (.int .i64 (n : Int))).run Tryz.prog w = .ok (.slice (some ⟨w.heap.size, 0, none⟩) n n) (w.alloc (.cells (Array.replicate n (Value.int .i64 0)) 3)) := by
 obtain ⟨i0, hi, hzz⟩ := Option.map_eq_some_iff.1 info3
 simp only [Prod.mk.injEq] at hzz
 obtain ⟨hz0, hz1, hz2⟩ := hzz
 rw [run_make (P := Tryz.prog) w 49 3 i0 (.int .i64 0) Tryz.underlying49 hi hz0 .i64 .i64 (n : Int) (n : Int) (by omega) (by omega) (by rw [hz2]; omega) (by omega)]
 rw [Int.toNat_natCast, hz1, Nat.mul_one]
 have e : madeCells (Value.int IntKind.i64 0).cells n = Array.replicate n (Value.int .i64 0) := by
  apply Array.ext'
  rw [show (Value.int IntKind.i64 0).cells = #[.int .i64 0] from rfl, toList_madeCells_one, Array.toList_replicate]
 rw [e]
theorem IB.made (w : World) (n : Nat) : IB (w.alloc (.cells (Array.replicate n (Value.int .i64 0)) 3)) w.heap.size (List.replicate n 0) := by
  unfold IB
  rw [xbF]; simp
theorem rows0 (n : Nat) : Rows2 n 0 (List.replicate n 0) (List.replicate n 0) := ⟨List.length_replicate, List.length_replicate, fun j hj => absurd hj (Nat.not_lt_zero _), fun j hj => absurd hj (Nat.not_lt_zero _)⟩
theorem rd103 {l : List S103} {i : Nat} (h : i < l.length) : xdP l (i : Int) = l[i] := by
  unfold xdP; rw [Int.toNat_natCast, List.getD_eq_getElem?_getD, List.getElem?_eq_getElem h]; rfl
theorem check_d (t : List S103) (A : Option Addr) (c : Nat) (w : World) (hr : Kd.C k103 w A t.length t) : Calls Tryz.prog 45 #[.slice A t.length c] w fun e w' => e = .returned (.tuple #[.int .i64 (xbZ t).1, .int .i64 (xbZ t).2]) ∧ Below w.heap.size w w' := by
 have HR := am hr;clear hr
 by_cases h1 : 1024 < t.length
 ·
  have t1 : decide ((1024 : Int) < (t.length : Int)) = true := decide_eq_true (by omega)
  have e : xbZ t = (2, 0) := by unfold xbZ; rw [if_pos h1]
  rw [e]
  clear e h1
  go_enter Tryz.func45, Tryz.ntmps45
  go_wp2_with fail
  go_ret2
  exact ⟨rfl, Below.refl _ _⟩
 have t1 : decide ((1024 : Int) < (t.length : Int)) = false := decide_eq_false (by omega)
 by_cases h2 : t.length = 0
 ·
  have e : xbZ t = (171, 0) := by unfold xbZ; rw [if_neg h1, if_pos h2]
  rw [e]
  rw [h2] at HR t1 ⊢
  clear e h1 h2
  go_enter Tryz.func45, Tryz.ntmps45
  go_wp2_with fail
  go_ret2
  exact ⟨rfl, Below.refl _ _⟩
 have e : xbZ t = (match (ckGo t 0 (List.replicate t.length 0) (List.replicate t.length 0)) with | (some i, _, _) => (171, (i : Int)) | (none, f, d) => if rdI f ((t.length : Int) - 1) ≠ 0 then (171, (t.length : Int) - 1) else if 64 < rdI d ((t.length : Int) - 1) then (172, (t.length : Int) - 1) else (0, 0)) := by unfold xbZ; rw [if_neg h1, if_neg h2]
 generalize hres : xbZ t = res at e ⊢
 have HE := am e;clear e hres
 obtain ⟨n, hn⟩ : ∃ n, n = t.length := ⟨_, rfl⟩
 rw [← hn] at HR h1 h2 t1 HE ⊢
 have HN := am hn;clear hn
 have t2 : ((n : Int) == 0) = false := by rw [beq_eq_false_iff_ne]; omega
 have t3 : decide (n = 0) = false := decide_eq_false h2
 have HL : xaA (n ≤ 1024 ∧ 0 < n) := ⟨by omega⟩
 clear h1
 go_enter Tryz.func45, Tryz.ntmps45
 go_wp2_with fail
 clear t1 t2 t3 h2
 have hmk : ∀ w', (Instr.makeSlice 49 (.int .i64 (n : Int)) (.int .i64 (n : Int))).run Tryz.prog w' = .ok (.slice (some ⟨w'.heap.size, 0, none⟩) n n) (w'.alloc (.cells (Array.replicate n (Value.int .i64 0)) 3)) := fun w' => run_ints w' n (by have := HL.out; omega)
 refine xcA ?_
 refine xbL (n := 8) (S := fun _ => True) (ds := []) #[false, false, false, false, false, false, false, false] (by kernel_rfl) rfl rfl trivial (fun hHeld => ?_)
 clear hHeld
 have HB0 := am (xaK (Below.refl w.heap.size w))
 have HZ0 : xaA (w.drew.heap.size = w.heap.size) := ⟨rfl⟩
 generalize w.drew = w0 at *
 refine rP 0 ?_
 refine rP 1 ?_
 refine rP 3 ?_
 refine rP 4 ?_
 refine join_ (σ := Nat × Nat) 1 #[true, true, true, true, true, true, true, false] (fun q => [(17, .slice (some ⟨q.1, 0, none⟩) n n), (20, .slice (some ⟨q.2, 0, none⟩) n n), (4, .slice (some ⟨q.1, 0, none⟩) n n)]) (fun q w' => q.1 ≠ q.2 ∧ IB w' q.1 (List.replicate n 0) ∧ IB w' q.2 (List.replicate n 0) ∧ w.heap.size ≤ q.1 ∧ w.heap.size ≤ q.2 ∧ Below w.heap.size w w') ?_ (fun hcont => ?_)
 rotate_left
 ·
  refine two_ (i := 2) (Ni := some 17) (j := 5) (Nj := some 20) #[true, true, true, true, true, false, false, false] #[true, true, false, true, true, true, false, false] rfl rfl rfl rfl (by kernel_rfl) (by decide) (by decide) (fun K hK => ?_) (fun K hK => ?_)
  ·
   refine xbP (w1 := ?_) (v := ?_) (by rfl) rfl ?_ ?_
   rotate_left 2
   ·
    go_simp
    constructor
    ·
     rfl
    ·
     rfl
   refine hK.out _ _ trivial (fun hHeld => ?_)
   clear hK K hHeld
   refine rN ?_
   refine rP 6 ?_
   refine rO 5 (fun K hK => ?_)
   refine xbP (w1 := ?_) (v := ?_) (by rfl) rfl ?_ ?_
   rotate_left 2
   ·
    go_simp
    constructor
    ·
     rfl
    ·
     rfl
   refine hK.out _ _ trivial (fun hHeld => ?_)
   clear hK K hHeld
   exact norm_ (by (try simp only [xdK, Act.put, List.setIfInBounds_toArray, List.set_cons_zero, List.set_cons_succ]); first | done | rfl) (hcont ⟨w0.heap.size, w0.heap.size + 1⟩ _ ⟨by simp, xaT (IB.made w0 n) _, by have h3 := IB.made (w0.alloc (.cells (Array.replicate n (Value.int .i64 0)) 3)) n; rwa [World.size_alloc] at h3, by have := HZ0.out; simp only; omega, by have := HZ0.out; simp only; omega, xaH (xaH HB0.out _) _⟩)
  ·
   refine xbP (w1 := ?_) (v := ?_) (by rfl) rfl ?_ ?_
   rotate_left 2
   ·
    go_simp
    constructor
    ·
     rfl
    ·
     rfl
   refine hK.out _ _ trivial (fun hHeld => ?_)
   clear hK K hHeld
   refine rN ?_
   refine rO 2 (fun K hK => ?_)
   refine xbP (w1 := ?_) (v := ?_) (by rfl) rfl ?_ ?_
   rotate_left 2
   ·
    go_simp
    constructor
    ·
     rfl
    ·
     rfl
   refine hK.out _ _ trivial (fun hHeld => ?_)
   clear hK K hHeld
   refine rN ?_
   refine rP 6 ?_
   exact norm_ (by (try simp only [xdK, Act.put, List.setIfInBounds_toArray, List.set_cons_zero, List.set_cons_succ]); first | done | rfl) (hcont ⟨w0.heap.size + 1, w0.heap.size⟩ _ ⟨by simp, by have h3 := IB.made (w0.alloc (.cells (Array.replicate n (Value.int .i64 0)) 3)) n; rwa [World.size_alloc] at h3, xaT (IB.made w0 n) _, by have := HZ0.out; simp only; omega, by have := HZ0.out; simp only; omega, xaH (xaH HB0.out _) _⟩)
 rintro ⟨bf, bd⟩ w1 ⟨hne, h1, h2, hz1, hz2, hb⟩
 have HB := am hb;have H1 := am h1;have H2 := am h2
 have HNE := am (show bf ≠ bd from hne)
 have HZ : xaA (w.heap.size ≤ bf ∧ w.heap.size ≤ bd) := ⟨hz1, hz2⟩
 simp only at H1 H2
 clear hb h1 h2 hne hz1 hz2 hmk
 refine rN (a' := _) ?_ (by simp only [xdK, Act.put, List.setIfInBounds_toArray, List.set_cons_zero, List.set_cons_succ]; rfl)
 refine rP 7 ?_
 refine rD ?_
 go_wp2_with fail
 go_loopg [23] n (fun kq v23 w' => ∃ (i : Nat) (f d : List Int), i ≤ n ∧ kq + i = n ∧ v23 = .int .i64 (i : Int) ∧ xaA (IB w' bf f) ∧ xaA (IB w' bd d) ∧ xaA (Rows2 n i f d) ∧ xaA (Below w.heap.size w w') ∧ xaA ((ckGo t 0 (List.replicate n 0) (List.replicate n 0)) = ckGo (t.drop i) i f d))
 case atStart => exact ⟨0, _, _, by omega, by omega, rfl, H1, H2, ⟨rows0 n⟩, HB, ⟨rfl⟩⟩
 case round =>
  obtain ⟨i, f, d, hi, hik, rfl, H1, H2, HRW, HB, HCK⟩ := hrel
  by_cases hil : i < n
  ·
   have t1 : decide (i < n) = true := decide_eq_true hil
   have hnl := HN.out
   have hil2 : i < t.length := by omega
   have hc := Kd.xaQ HR.out HB.out
   obtain ⟨ad, e, q0, q1, q2, q3, q4, q5, q6, q7, q8, q9, q10⟩ := at_T103 hc (i : Int) (by omega) (by omega)
   subst e
   rw [rd103 hil2] at q0 q1 q2 q3 q4 q5 q6 q7 q8 q9 q10
   rw [Int.toNat_natCast] at q0 q1 q2 q3 q4 q5 q6 q7 q8 q9 q10
   have HT := am (List.drop_eq_getElem_cons hil2)
   obtain ⟨x, hx⟩ : ∃ x, x = t[i] := ⟨_, rfl⟩
   rw [← hx] at HT q0 q1 q2 q3 q4 q5 q6 q7 q8 q9 q10
   clear hx hc hnl hil2
   have K1 := am (H1.out.below (xaH (Below.refl _ _) (.cells #[.int .i64 x.f0, .int .i64 x.f1, .int .i64 x.f2, .float .f64 x.f3, .float .f64 x.f4, .int .i64 x.f5, .int .i64 x.f6, .int .i64 x.f7, .int .i64 x.f8, .int .i64 x.f9, .int .i64 x.f10] 103)))
   have K2 := am (H2.out.below (xaH (Below.refl _ _) (.cells #[.int .i64 x.f0, .int .i64 x.f1, .int .i64 x.f2, .float .f64 x.f3, .float .f64 x.f4, .int .i64 x.f5, .int .i64 x.f6, .int .i64 x.f7, .int .i64 x.f8, .int .i64 x.f9, .int .i64 x.f10] 103)))
   have HB1 := am (xaH HB.out (.cells #[.int .i64 x.f0, .int .i64 x.f1, .int .i64 x.f2, .float .f64 x.f3, .float .f64 x.f4, .int .i64 x.f5, .int .i64 x.f6, .int .i64 x.f7, .int .i64 x.f8, .int .i64 x.f9, .int .i64 x.f10] 103))
   have B7 := am (xbF wr (.cells #[.int .i64 x.f0, .int .i64 x.f1, .int .i64 x.f2, .float .f64 x.f3, .float .f64 x.f4, .int .i64 x.f5, .int .i64 x.f6, .int .i64 x.f7, .int .i64 x.f8, .int .i64 x.f9, .int .i64 x.f10] 103))
   have hbb : bf ≠ wr.heap.size ∧ bd ≠ wr.heap.size := by have := H1.out.lt; have := H2.out.lt; omega
   have s1 := K1.out.cell i (by rw [HRW.out.lf]; exact hil)
   have s2 := K1.out.frozen i
   have J1 := am (K1.out.put i (i : Int))
   have J2 := am (K2.out.other (fun e => HNE.out e.symm) i (.int .i64 (i : Int)))
   have s3 := J2.out.cell i (by rw [HRW.out.ld]; exact hil)
   have s4 := J2.out.frozen i
   have L1 := am (J1.out.other HNE.out i (.int .i64 1))
   have L2 := am (J2.out.put i 1)
   have B8 : xaA ((((wr.alloc (.cells #[.int .i64 x.f0, .int .i64 x.f1, .int .i64 x.f2, .float .f64 x.f3, .float .f64 x.f4, .int .i64 x.f5, .int .i64 x.f6, .int .i64 x.f7, .int .i64 x.f8, .int .i64 x.f9, .int .i64 x.f10] 103)).setCell ⟨bf, i, none⟩ (.int .i64 (i : Int))).setCell ⟨bd, i, none⟩ (.int .i64 1)).heap[wr.heap.size]? = some (.cells #[.int .i64 x.f0, .int .i64 x.f1, .int .i64 x.f2, .float .f64 x.f3, .float .f64 x.f4, .int .i64 x.f5, .int .i64 x.f6, .int .i64 x.f7, .int .i64 x.f8, .int .i64 x.f9, .int .i64 x.f10] 103 (0, 0))) := ⟨(Below.heap_setCell _ _ _ _ hbb.2.symm).trans ((Below.heap_setCell _ _ _ _ hbb.1.symm).trans B7.out)⟩
   have HB2 := am (xaF (g := bd) (j := i) (v := .int .i64 1) (xaF (g := bf) (j := i) (v := .int .i64 (i : Int)) HB1.out HZ.out.1) HZ.out.2)
   have HRP := am (rows_put HRW.out hil)
   obtain ⟨⟨c0, c1, c2, c3, c4, c5, c6, c7, c8, c9, c10⟩, z_⟩ := blk11 B8
   clear z_ K1 K2 J1 J2 hbb B7
   have g3 : (i : Int) < (n : Int) := by omega
   go_wp2_with fail
   clear s1 s2 s3 s4 q0 q1 q2 q3 q4 q5 q6 q7 q8 q9 q10 c0 c1 c2 c3 c4 c5 c6 c7 c8 c9 c10
   generalize (((wr.alloc (.cells #[.int .i64 x.f0, .int .i64 x.f1, .int .i64 x.f2, .float .f64 x.f3, .float .f64 x.f4, .int .i64 x.f5, .int .i64 x.f6, .int .i64 x.f7, .int .i64 x.f8, .int .i64 x.f9, .int .i64 x.f10] 103)).setCell ⟨bf, i, none⟩ (.int .i64 (i : Int))).setCell ⟨bd, i, none⟩ (.int .i64 1)) = w2 at *
   have HRI : xaA (Rows2 n i (f.set i (i : Int)) (d.set i 1)) := ⟨⟨HRP.out.lf, HRP.out.ld, fun j hj => HRP.out.f j (by omega), fun j hj => HRP.out.d j (by omega)⟩⟩
   have hfin : ∀ r, (ckGo (t.drop i) i f d) = (some i, f, d) → r = res → r = ((171, (i : Int)) : Int × Int) := fun r h1 h2 => by rw [h2, HE.out, HCK.out, h1]
   have HFIN := am hfin;clear hfin
   refine (fields_c x _).mono ?_
   rintro e w3 ⟨rfl, hb3⟩
   have M1 := am (L1.out.below hb3)
   have M2 := am (L2.out.below hb3)
   have B9 := am (xaD B8.out hb3)
   have HB3 := am (HB2.out.trans (hb3.mono HB2.out.size))
   clear hb3 L1 L2 B8
   obtain ⟨⟨c0, c1, c2, c3, c4, c5, c6, c7, c8, c9, c10⟩, z_⟩ := blk11 B9
   clear z_
   by_cases hfb : fieldsB x = true
   ·
    have hfc := fits_c x.f0 x.f1 x.f2 x.f3 x.f4 x.f5 x.f6 x.f7 x.f8 x.f9 x.f10 i n _ _ bf bd w3 M1.out M2.out HNE.out HRI.out hil HL.out.1;have HFC := am hfc;have HFB := am hfb;clear hfc
    by_cases hq : (fitsP x.f0 x.f1 x.f2 i (f.set i (i : Int)) (d.set i 1)).1 = true
    ·
     have HQ := am hq
     have hmx : (i : Int) + 1 ≤ 9223372036854775807 := by have := HL.out; omega
     rw [hq] at HFC
     rw [hfb]
     clear hq hfb
     go_wp2_with (go_at_call 70; go_loud ((with_reducible refine HFC.out.mono ?_); rintro e w4 ⟨rfl, hf4, n1, n2⟩; have N1 := am n1; have N2 := am n2; have HB4 := am (HB3.out.trans (hf4.xdM HB3.out.size (fun k hk => by rcases hk with rfl | rfl; exact HZ.out.1; exact HZ.out.2))); clear hf4 n1 n2))
     go_roundg (gk - 1)
     case measure => omega
     case rel => exact ⟨i + 1, _, _, by omega, by omega, by go_num, N1, N2, ⟨rows_fits _ _ _ HRP.out hil HQ.out⟩, HB4, ⟨by rw [HCK.out, HT.out, ckGo, if_pos (by rw [HFB.out, HQ.out]; rfl)]⟩⟩
    ·
     replace hq := Bool.eq_false_iff.2 hq;have HQ := am hq
     have hmx : (i : Int) + 1 ≤ 9223372036854775807 := by have := HL.out; omega
     rw [hq] at HFC
     rw [hfb]
     clear hq hfb
     go_wp2_with (go_at_call 70; go_loud ((with_reducible refine HFC.out.mono ?_); rintro e w4 ⟨rfl, hf4, n1, n2⟩; have N1 := am n1; have N2 := am n2; have HB4 := am (HB3.out.trans (hf4.xdM HB3.out.size (fun k hk => by rcases hk with rfl | rfl; exact HZ.out.1; exact HZ.out.2))); clear hf4 n1 n2))
     go_ret2
     have e := HFIN.out res (by rw [HT.out, ckGo, if_neg (by rw [HFB.out, HQ.out]; decide)]) rfl
     rw [e]
     exact ⟨rfl, HB4.out⟩
   ·
    replace hfb := Bool.eq_false_iff.2 hfb;have HFB := am hfb
    rw [hfb]
    clear hfb
    go_wp2_with fail
    go_ret2
    have e := HFIN.out res (by rw [HT.out, ckGo, if_neg (by rw [HFB.out, Bool.false_and]; decide)]) rfl
    rw [e]
    exact ⟨rfl, HB3.out⟩
  ·
   have t1 : decide (i < n) = false := decide_eq_false hil
   have hin : i = n := by omega
   have hres : res = (if rdI f ((n : Int) - 1) ≠ 0 then (171, (n : Int) - 1) else if 64 < rdI d ((n : Int) - 1) then (172, (n : Int) - 1) else (0, 0)) := by rw [HE.out, HCK.out, List.drop_eq_nil_of_le (by have := HN.out; omega)]; rfl
   have hln := HL.out
   have hwr : IntKind.i64.wrap ((n : Int) - 1) = (n : Int) - 1 := by rw [i64_w]; unfold wrap64; omega
   have f0 := H1.out.rd ((n : Int) - 1) (by omega) (by rw [HRW.out.lf]; omega)
   have f1 := H2.out.rd ((n : Int) - 1) (by omega) (by rw [HRW.out.ld]; omega)
   have hti : ((n : Int) - 1).toNat = n - 1 := by omega
   rw [hti] at f0 f1
   clear hti
   generalize rdI f ((n : Int) - 1) = fv at *
   generalize rdI d ((n : Int) - 1) = dv at *
   have HRS := am hres
   have g4 : (1 : Int) ≤ (n : Int) := by omega
   have g1 : (0 : Int) ≤ (n : Int) - 1 := by omega
   have g2 : (n : Int) - 1 < (n : Int) := by omega
   clear hin hres hln
   by_cases a1 : fv = 0
   ·
    subst a1
    have u1 : ((0 : Int) != 0) = false := rfl
    by_cases a2 : 64 < dv
    ·
     have u2 : decide (64 < dv) = true := decide_eq_true a2
     have HA2 := am a2;clear a2
     go_wp2_with fail
     go_ret2
     have e := HRS.out
     rw [if_neg (by simp), if_pos (by have := HA2.out; omega)] at e
     rw [e]
     exact ⟨rfl, HB.out⟩
    ·
     have u2 : decide (64 < dv) = false := decide_eq_false a2
     have HA2 := am a2;clear a2
     go_wp2_with fail
     go_ret2
     have e := HRS.out
     rw [if_neg (by simp), if_neg (by have := HA2.out; omega)] at e
     rw [e]
     exact ⟨rfl, HB.out⟩
   ·
    have u1 : (fv != 0) = true := by rw [bne, beq_eq_false_iff_ne.2 a1]; rfl
    have HA1 := am a1;clear a1
    go_wp2_with fail
    go_ret2
    have e := HRS.out
    rw [if_pos HA1.out] at e
    rw [e]
    exact ⟨rfl, HB.out⟩
theorem fixed1 (kind cur : Int) (x y : Nat) (a b n : Int) (rl : List S48) (re : Int) (w : World) (hf : ∀ w, Calls Tryz.prog 96 #[.agg #[.int .i64 1, .int .i64 kind, .int .i64 cur, .float .f64 x, .float .f64 y, .int .i64 a, .int .i64 b, .int .i64 n, .int .i64 3, .int .i64 1, .int .i64 0, .int .i64 0, .int .i64 0, .int .i64 0, .slice none 0 0]] w fun e w' => ∃ A' c', e = .returned (.tuple #[.slice A' rl.length c', .int .i64 re]) ∧ Sl k48 48 w' w.heap.size (fun _ => True) A' c' rl ∧ Below w.heap.size w w') : Calls Tryz.prog 72 #[.agg #[.int .i64 3, .int .i64 0, .int .i64 0, .float .f64 x, .float .f64 y, .int .i64 a, .int .i64 b, .int .i64 cur, .int .i64 kind, .int .i64 n, .int .i64 0]] w fun e w' => ∃ A' c', e = .returned (.tuple #[.slice A' rl.length c', .int .i64 re]) ∧ Sl k48 48 w' w.heap.size (fun _ => True) A' c' rl ∧ Below w.heap.size w w' := by
 have HB := am (Below.refl w.heap.size w)
 have HF := am hf;clear hf
 go_enter Tryz.func72, Tryz.ntmps72
 go_upto_region 2 with ((with_reducible refine xaJ (N := 1) rfl ?_); refine bxv 1 #[.int .i64 3, .int .i64 0, .int .i64 0, .float .f64 x, .float .f64 y, .int .i64 a, .int .i64 b, .int .i64 cur, .int .i64 kind, .int .i64 n, .int .i64 0] 103 ?_; intro gt hg w1 hbox hb; have Bgt := am hbox; replace HB := am (xaC HB.out hb); clear hb hbox hg; obtain ⟨⟨cgt_0, cgt_1, cgt_2, cgt_3, cgt_4, cgt_5, cgt_6, cgt_7, cgt_8, cgt_9, cgt_10⟩, ygt_⟩ := blk11 Bgt)
 have BS := am (xbF w1 (.cells #[.int .i64 a, .int .i64 b, .int .i64 n, .int .i64 3, .int .i64 1, .int .i64 0, .int .i64 0, .int .i64 0, .int .i64 0, .slice none 0 0] 117))
 have BTW := am (xaD Bgt.out (xaH (Below.refl w1.heap.size w1) (.cells #[.int .i64 a, .int .i64 b, .int .i64 n, .int .i64 3, .int .i64 1, .int .i64 0, .int .i64 0, .int .i64 0, .int .i64 0, .slice none 0 0] 117)))
 replace HB := am (xaH HB.out (.cells #[.int .i64 a, .int .i64 b, .int .i64 n, .int .i64 3, .int .i64 1, .int .i64 0, .int .i64 0, .int .i64 0, .int .i64 0, .slice none 0 0] 117))
 clear cgt_0 cgt_1 cgt_2 cgt_3 cgt_4 cgt_5 cgt_6 cgt_7 cgt_8 cgt_9 cgt_10 ygt_
 generalize w1.heap.size = gs at BS ⊢
 generalize w1.alloc (.cells #[.int .i64 a, .int .i64 b, .int .i64 n, .int .i64 3, .int .i64 1, .int .i64 0, .int .i64 0, .int .i64 0, .int .i64 0, .slice none 0 0] 117) = W at BS BTW HB ⊢
 obtain ⟨cgs_0, cgs_1, cgs_2, cgs_3, cgs_4, cgs_5, cgs_6, cgs_7, cgs_8, cgs_9, zgs_0, zgs_1, zgs_2, zgs_3, zgs_4, zgs_5, zgs_6, zgs_7, zgs_8, zgs_9⟩ := blk10 BS
 obtain ⟨⟨cgt_0, cgt_1, cgt_2, cgt_3, cgt_4, cgt_5, cgt_6, cgt_7, cgt_8, cgt_9, cgt_10⟩, ygt_⟩ := blk11 BTW
 go_wp2_with (go_at_call 96; (with_reducible refine (HF.out _).mono ?_); rintro e w5 ⟨A', c', rfl, hs, hb⟩; have HS := am hs; have HB5 := am hb; clear hs hb)
 go_ret2
 exact ⟨A', c', rfl, HS.out.low HB.out.size, HB.out.trans (HB5.out.mono HB.out.size)⟩
theorem meant1 (kind cur : Int) (x y : Nat) (a b n : Int) (rl : List S48) (re : Int) (w : World) (hl : rl.length ≤ 4096) (hf : ∀ w, Calls Tryz.prog 72 #[.agg #[.int .i64 3, .int .i64 0, .int .i64 0, .float .f64 x, .float .f64 y, .int .i64 a, .int .i64 b, .int .i64 cur, .int .i64 kind, .int .i64 n, .int .i64 0]] w fun e w' => ∃ A' c', e = .returned (.tuple #[.slice A' rl.length c', .int .i64 re]) ∧ Sl k48 48 w' w.heap.size (fun _ => True) A' c' rl ∧ Below w.heap.size w w') : Calls Tryz.prog 48 #[.agg #[.int .i64 3, .int .i64 0, .int .i64 0, .float .f64 x, .float .f64 y, .int .i64 a, .int .i64 b, .int .i64 cur, .int .i64 kind, .int .i64 n, .int .i64 0], .slice none 0 0, .int .i64 4096] w fun e w' => ∃ A' c', e = .returned (.tuple #[.slice A' rl.length c', .int .i64 re]) ∧ Sl k48 48 w' w.heap.size (fun _ => True) A' c' rl ∧ Below w.heap.size w w' := by
 have HB := am (Below.refl w.heap.size w)
 have HF := am hf
 have t1 : decide ((rl.length : Int) > 4096) = false := decide_eq_false (by omega)
 clear hf hl
 by_cases he : re = 0
 ·
  subst he
  go_enter Tryz.func48, Tryz.ntmps48
  go_wp2_with (first | ((with_reducible refine xaJ (N := 3) rfl ?_); refine bxv 3 #[.int .i64 3, .int .i64 0, .int .i64 0, .float .f64 x, .float .f64 y, .int .i64 a, .int .i64 b, .int .i64 cur, .int .i64 kind, .int .i64 n, .int .i64 0] 103 ?_; intro gt hg w1 hbox hb; have Bgt := am hbox; replace HB := am (xaC HB.out hb); clear hb hbox hg; obtain ⟨⟨cgt_0, cgt_1, cgt_2, cgt_3, cgt_4, cgt_5, cgt_6, cgt_7, cgt_8, cgt_9, cgt_10⟩, ygt_⟩ := blk11 Bgt) | (go_at_call 72; (with_reducible refine (HF.out _).mono ?_); rintro e w5 ⟨A', c', rfl, hs, hb⟩; have HS := am hs; have HB5 := am hb; clear hs hb))
  go_ret2
  exact ⟨A', c', rfl, HS.out.low HB.out.size, HB.out.trans (HB5.out.mono HB.out.size)⟩
 ·
  have t0 : (re == 0) = false := beq_eq_false_iff_ne.2 he
  clear he
  go_enter Tryz.func48, Tryz.ntmps48
  go_wp2_with (first | ((with_reducible refine xaJ (N := 3) rfl ?_); refine bxv 3 #[.int .i64 3, .int .i64 0, .int .i64 0, .float .f64 x, .float .f64 y, .int .i64 a, .int .i64 b, .int .i64 cur, .int .i64 kind, .int .i64 n, .int .i64 0] 103 ?_; intro gt hg w1 hbox hb; have Bgt := am hbox; replace HB := am (xaC HB.out hb); clear hb hbox hg; obtain ⟨⟨cgt_0, cgt_1, cgt_2, cgt_3, cgt_4, cgt_5, cgt_6, cgt_7, cgt_8, cgt_9, cgt_10⟩, ygt_⟩ := blk11 Bgt) | (go_at_call 72; (with_reducible refine (HF.out _).mono ?_); rintro e w5 ⟨A', c', rfl, hs, hb⟩; have HS := am hs; have HB5 := am hb; clear hs hb))
  go_ret2
  exact ⟨A', c', rfl, HS.out.low HB.out.size, HB.out.trans (HB5.out.mono HB.out.size)⟩
theorem flows1 (kind cur : Int) (x y : Nat) (a b n : Int) (rl : List S48) (re : Int) (w : World) (hl : rl.length ≤ 4096) (A : Option Addr) (hr : Kd.C k103 w A 1 [⟨3, 0, 0, x, y, a, b, cur, kind, n, 0⟩]) (hck : (xbZ [⟨3, 0, 0, x, y, a, b, cur, kind, n, 0⟩]).1 = 0) (herr : re ≠ 0 → rl = []) (hf : ∀ w, Calls Tryz.prog 48 #[.agg #[.int .i64 3, .int .i64 0, .int .i64 0, .float .f64 x, .float .f64 y, .int .i64 a, .int .i64 b, .int .i64 cur, .int .i64 kind, .int .i64 n, .int .i64 0], .slice none 0 0, .int .i64 4096] w fun e w' => ∃ A' c', e = .returned (.tuple #[.slice A' rl.length c', .int .i64 re]) ∧ Sl k48 48 w' w.heap.size (fun _ => True) A' c' rl ∧ Below w.heap.size w w') : Calls Tryz.prog 28 #[.slice A 1 1] w fun e w' => ∃ A' c', e = .returned (.tuple #[.slice A' rl.length c', .int .i64 re]) ∧ Sl k48 48 w' w.heap.size (fun _ => True) A' c' rl ∧ Below w.heap.size w w' := by
 have HB := am (Below.refl w.heap.size w)
 have HF := am hf;have HL := am hl;have hR := hr;have HR := am hR
 obtain ⟨z, hz⟩ : ∃ z, z = (xbZ [⟨3, 0, 0, x, y, a, b, cur, kind, n, 0⟩]).2 := ⟨_, rfl⟩
 have hc : Calls Tryz.prog 45 #[.slice A 1 1] w fun e w' => e = .returned (.tuple #[.int .i64 0, .int .i64 z]) ∧ Below w.heap.size w w' := by rw [← hck, hz]; exact check_d [⟨3, 0, 0, x, y, a, b, cur, kind, n, 0⟩] A 1 w hr
 clear hz;have HC := am hc;have HERR := am herr;clear hf hl hR hc hck herr
 go_enter Tryz.func28, Tryz.ntmps28
 go_wp2_with (go_at_call 45; (with_reducible refine (HC.out).mono ?_); rintro e w1 ⟨rfl, hb⟩; replace HB := am hb; clear hb)
 go_loopg [6, 7, 23] 1 (fun kq v6 v7 v23 w' => (kq = 1 ∧ (∃ i : Nat, xaA (i = 0) ∧ v23 = .int .i64 (i : Int)) ∧ v6 = .slice none 0 0 ∧ v7 = .slice none 0 0 ∧ xaA (Below w.heap.size w w')) ∨ (kq = 0 ∧ v23 = .int .i64 1 ∧ re = 0 ∧ ∃ A' c', v6 = .slice A' rl.length c' ∧ xaA (Sl k48 48 w' w.heap.size (fun _ => True) A' c' rl) ∧ xaA (Below w.heap.size w w')))
 case atStart => exact Or.inl ⟨rfl, ⟨0, ⟨rfl⟩, rfl⟩, rfl, rfl, ⟨by repeat (first | exact HB.out | apply xaG | apply xaK)⟩⟩
 case round =>
  rcases hrel with ⟨hk, ⟨i, HI, rfl⟩, rfl, rfl, HBW⟩ | ⟨hk, rfl, hre, A', c', rfl, HS, HBW⟩
  ·
   obtain ⟨ad, e, h0, h1, h2, h3, h4, h5, h6, h7, h8, h9, h10⟩ := at_T103 (Kd.xaQ HR.out HBW.out) (i : Int) (by omega) (by have := HI.out; omega)
   subst e
   rw [show xdP [⟨3, 0, 0, x, y, a, b, cur, kind, n, 0⟩] (i : Int) = ⟨3, 0, 0, x, y, a, b, cur, kind, n, 0⟩ by rw [HI.out]; rfl] at h0 h1 h2 h3 h4 h5 h6 h7 h8 h9 h10
   rw [Int.toNat_natCast] at h0 h1 h2 h3 h4 h5 h6 h7 h8 h9 h10
   simp only at h0 h1 h2 h3 h4 h5 h6 h7 h8 h9 h10
   have t1 : decide ((i : Int) < 1) = true := decide_eq_true (by have := HI.out; omega)
   have t2 : decide (i < 1) = true := decide_eq_true (by have := HI.out; omega)
   have hi1 : i < 1 := by have := HI.out; omega
   go_upto_region 9 with (fail)
   clear h0 h1 h2 h3 h4 h5 h6 h7 h8 h9 h10
   have BP := am (xbF wr (.cells #[.int .i64 3, .int .i64 0, .int .i64 0, .float .f64 x, .float .f64 y, .int .i64 a, .int .i64 b, .int .i64 cur, .int .i64 kind, .int .i64 n, .int .i64 0] 103))
   replace HBW := am (xaH HBW.out (.cells #[.int .i64 3, .int .i64 0, .int .i64 0, .float .f64 x, .float .f64 y, .int .i64 a, .int .i64 b, .int .i64 cur, .int .i64 kind, .int .i64 n, .int .i64 0] 103))
   generalize wr.heap.size = gp at BP ⊢
   generalize wr.alloc (.cells #[.int .i64 3, .int .i64 0, .int .i64 0, .float .f64 x, .float .f64 y, .int .i64 a, .int .i64 b, .int .i64 cur, .int .i64 kind, .int .i64 n, .int .i64 0] 103) = W at BP HBW ⊢
   obtain ⟨⟨cgp_0, cgp_1, cgp_2, cgp_3, cgp_4, cgp_5, cgp_6, cgp_7, cgp_8, cgp_9, cgp_10⟩, ygp_⟩ := blk11 BP
   have hp3 : ∀ w, Calls Tryz.prog 47 #[.int .i64 3] w fun e w' => e = .returned (.int .i64 0) ∧ w' = w := fun w => xdY 3 w
   have HP3 := am hp3;clear hp3
   go_upto_region 16 with (go_at_call 47; (with_reducible refine (HP3.out _).mono ?_); rintro e w' ⟨rfl, hw_⟩; obtain rfl := hw_.symm)
   clear cgp_0 cgp_1 cgp_2 cgp_3 cgp_4 cgp_5 cgp_6 cgp_7 cgp_8 cgp_9 cgp_10 ygp_
   have hS : ∀ w', Below W.heap.size W w' → (fun w' => w'.cell? ⟨gp, 0, none⟩ = some (.int .i64 3) ∧ w'.cell? ⟨gp, 1, none⟩ = some (.int .i64 0) ∧ w'.cell? ⟨gp, 2, none⟩ = some (.int .i64 0) ∧ w'.cell? ⟨gp, 3, none⟩ = some (.float .f64 x) ∧ w'.cell? ⟨gp, 4, none⟩ = some (.float .f64 y) ∧ w'.cell? ⟨gp, 5, none⟩ = some (.int .i64 a) ∧ w'.cell? ⟨gp, 6, none⟩ = some (.int .i64 b) ∧ w'.cell? ⟨gp, 7, none⟩ = some (.int .i64 cur) ∧ w'.cell? ⟨gp, 8, none⟩ = some (.int .i64 kind) ∧ w'.cell? ⟨gp, 9, none⟩ = some (.int .i64 n) ∧ w'.cell? ⟨gp, 10, none⟩ = some (.int .i64 0)) w' := fun w' hb => by
    have hbo := xaD BP.out hb
    exact ⟨(xaB hbo 0).trans rfl, (xaB hbo 1).trans rfl, (xaB hbo 2).trans rfl, (xaB hbo 3).trans rfl, (xaB hbo 4).trans rfl, (xaB hbo 5).trans rfl, (xaB hbo 6).trans rfl, (xaB hbo 7).trans rfl, (xaB hbo 8).trans rfl, (xaB hbo 9).trans rfl, (xaB hbo 10).trans rfl⟩
   refine xbL (n := 13) (S := fun w' => w'.cell? ⟨gp, 0, none⟩ = some (.int .i64 3) ∧ w'.cell? ⟨gp, 1, none⟩ = some (.int .i64 0) ∧ w'.cell? ⟨gp, 2, none⟩ = some (.int .i64 0) ∧ w'.cell? ⟨gp, 3, none⟩ = some (.float .f64 x) ∧ w'.cell? ⟨gp, 4, none⟩ = some (.float .f64 y) ∧ w'.cell? ⟨gp, 5, none⟩ = some (.int .i64 a) ∧ w'.cell? ⟨gp, 6, none⟩ = some (.int .i64 b) ∧ w'.cell? ⟨gp, 7, none⟩ = some (.int .i64 cur) ∧ w'.cell? ⟨gp, 8, none⟩ = some (.int .i64 kind) ∧ w'.cell? ⟨gp, 9, none⟩ = some (.int .i64 n) ∧ w'.cell? ⟨gp, 10, none⟩ = some (.int .i64 0)) (ds := []) #[false, false, false, false, false, false, false, false, false, false, false, false, false] (by kernel_rfl) rfl rfl (hS _ (xaK (Below.refl _ _))) (fun hHeld => ?_)
   refine rT 0 ?_
   refine rP 1 ?_
   refine rP 2 ?_
   refine rP 3 ?_
   refine rP 4 ?_
   refine rP 5 ?_
   refine rP 6 ?_
   refine rO 7 (fun K hK => ?_)
   refine goes_ Tryz.func48 (by kernel_rfl) rfl #[.agg #[.int .i64 3, .int .i64 0, .int .i64 0, .float .f64 x, .float .f64 y, .int .i64 a, .int .i64 b, .int .i64 cur, .int .i64 kind, .int .i64 n, .int .i64 0], .slice none 0 0, .int .i64 (wrap64 4096)] (by rfl) rfl rfl (by (try simp only [List.map_toArray, List.map_cons, List.map_nil]); first | done | rfl) ?_
   rw [show wrap64 4096 = 4096 from L.w64 (by omega) (by omega)]
   refine (HF.out _).mono ?_
   rintro e w5 ⟨A', c', rfl, hs, hb⟩
   refine ⟨_, rfl, ?_⟩
   have hb5 : Below W.heap.size W w5 := (xaK (Below.refl W.heap.size W)).trans hb
   have HS := am (hs.low HBW.out.size)
   refine hK.out _ _ (hS _ hb5) (fun hHeld => ?_)
   clear hK K hHeld
   refine rN ?_
   refine rP 8 ?_
   refine rP 9 ?_
   refine rP 10 ?_
   refine rP 11 ?_
   refine rP 12 ?_
   refine rD ?_
   have HB5 := am (HBW.out.trans (hb5.mono HBW.out.size))
   clear hs hb hb5 hS
   by_cases he : re = 0
   ·
    subst he
    go_wp2_with ((with_reducible refine xaR (b := .append) (xs := #[.tmp 75, .tmp 76]) rfl ?_); at_builtin; refine Kd.xeB k48 (w0 := w) w.heap.size rfl (.tmp 75) (.tmp 76) 24 48 (.agg #[.int .i64 0, .float .f64 0, .int .i64 0]) 24 rfl Tryz.underlying24 xeA rfl (by decide) (by omega) (.slice none 0 0) [] rl A' rl.length c' (fun _ => True) (fun _ => False) rfl rfl (Kd.R_nil _ _ _ _ _) HS.out.C (fun _ _ h => h) (fun _ h => h.elim) (fun _ _ => trivial) HB5.out HB5.out.size ?aL ?_; (case aL => have := HL.out; simp only [List.length_nil]; omega); intro v1 w6 ho hb hg hat; rw [List.nil_append] at ho; have HO1 := am ho; replace HB5 := am hb; clear ho hb hg hat)
    obtain ⟨A1, c1, rfl, hs1⟩ := Sl.of_R HO1.out
    have HS1 := am hs1;clear hs1
    go_roundg 0
    case measure => omega
    case rel => exact Or.inr ⟨rfl, by have h_ := HI.out; subst h_; first | rfl | go_num, by first | rfl | trivial, A1, c1, rfl, ⟨HS1.out.below (xaK (xaH (xaH (Below.refl _ _) _) _))⟩, ⟨xaK (xaH (xaH HB5.out _) _)⟩⟩
   ·
    have t0 : (re != 0) = true := bne_iff_ne.mpr he
    have hrl := HERR.out he;subst hrl
    go_wp2_with fail
    go_ret2
    exact ⟨none, 0, rfl, Sl.nil _ _ _ _ _, HB5.out⟩
  ·
   go_wp2_with (go_at_call 35; (with_reducible refine (xiE _ _ _ _ HS.out.le HS.out.lim).mono ?_); rintro e w7 ⟨rfl, hw_⟩; obtain rfl := hw_.symm)
   go_ret2
   have hs2 := HS.out.head rl.length rl.length (Nat.le_refl _) (Nat.le_refl _) HS.out.le
   rw [List.take_length] at hs2
   exact ⟨A', rl.length, by rw [hre]; rfl, hs2, HBW.out⟩
def xdS : List Int := [0, 0, 2, 3, 4, 6, 7, 8]
def KT (w : World) : Prop := ∃ (a : Addr) (c : Nat), w.cell? ⟨0, 0, none⟩ = some (.slice (some a) 8 c) ∧ a.block < w.heap.size ∧ ∀ j, j < 8 → w.cell? (a.add j) = some (.int .i64 (rdI xdS (j : Int)))
theorem add_block (a : Addr) (n : Nat) : (a.add n).block = a.block := by unfold Addr.add; split <;> rfl
theorem lt_of_cell {w : World} {b j : Nat} {v : Value} (h : w.cell? ⟨b, j, none⟩ = some v) : b < w.heap.size := by
 rcases Nat.lt_or_ge b w.heap.size with h1 | h1
 ·
  exact h1
 ·
  rw [World.cell?] at h
  simp [Array.getElem?_eq_none h1] at h
theorem KT.below {w w' : World} (h : KT w) (hb : Below w.heap.size w w') : KT w' := by
  obtain ⟨a, c, h1, h2, h3⟩ := h
  exact ⟨a, c, (hb.cell (p := ⟨0, 0, none⟩) (lt_of_cell h1)).trans h1, Nat.lt_of_lt_of_le h2 hb.size, fun j hj => (hb.cell (p := a.add j) (by rw [add_block]; exact h2)).trans (h3 j hj)⟩
def termO (o : S37) : S103 := ⟨rdI xdS o.f0, 0, 0, o.f1, o.f2, o.f3, o.f4, o.f5, o.f6, o.f7, o.f8⟩
theorem put11 {w : World} {b : Nat} {t : TypeId} {z0 z1 z2 z3 z4 z5 z6 z7 z8 z9 z10 : Value} (x0 x1 x2 x3 x4 x5 x6 x7 x8 x9 x10 : Value) (h : w.heap[b]? = some (.cells #[z0, z1, z2, z3, z4, z5, z6, z7, z8, z9, z10] t (0, 0))) : (((((((((((w.setCell ⟨b, 0, none⟩ x0).setCell ⟨b, 1, none⟩ x1).setCell ⟨b, 2, none⟩ x2).setCell ⟨b, 3, none⟩ x3).setCell ⟨b, 4, none⟩ x4).setCell ⟨b, 5, none⟩ x5).setCell ⟨b, 6, none⟩ x6).setCell ⟨b, 7, none⟩ x7).setCell ⟨b, 8, none⟩ x8).setCell ⟨b, 9, none⟩ x9).setCell ⟨b, 10, none⟩ x10).heap[b]? = some (.cells #[x0, x1, x2, x3, x4, x5, x6, x7, x8, x9, x10] t (0, 0)) := by
 have q0 : (w.setCell ⟨b, 0, none⟩ x0).heap[b]? = some (.cells #[x0, z1, z2, z3, z4, z5, z6, z7, z8, z9, z10] t (0, 0)) := xaN h 0 x0 rfl
 have q1 : ((w.setCell ⟨b, 0, none⟩ x0).setCell ⟨b, 1, none⟩ x1).heap[b]? = some (.cells #[x0, x1, z2, z3, z4, z5, z6, z7, z8, z9, z10] t (0, 0)) := xaN q0 1 x1 rfl
 have q2 : (((w.setCell ⟨b, 0, none⟩ x0).setCell ⟨b, 1, none⟩ x1).setCell ⟨b, 2, none⟩ x2).heap[b]? = some (.cells #[x0, x1, x2, z3, z4, z5, z6, z7, z8, z9, z10] t (0, 0)) := xaN q1 2 x2 rfl
 have q3 : ((((w.setCell ⟨b, 0, none⟩ x0).setCell ⟨b, 1, none⟩ x1).setCell ⟨b, 2, none⟩ x2).setCell ⟨b, 3, none⟩ x3).heap[b]? = some (.cells #[x0, x1, x2, x3, z4, z5, z6, z7, z8, z9, z10] t (0, 0)) := xaN q2 3 x3 rfl
 have q4 : (((((w.setCell ⟨b, 0, none⟩ x0).setCell ⟨b, 1, none⟩ x1).setCell ⟨b, 2, none⟩ x2).setCell ⟨b, 3, none⟩ x3).setCell ⟨b, 4, none⟩ x4).heap[b]? = some (.cells #[x0, x1, x2, x3, x4, z5, z6, z7, z8, z9, z10] t (0, 0)) := xaN q3 4 x4 rfl
 have q5 : ((((((w.setCell ⟨b, 0, none⟩ x0).setCell ⟨b, 1, none⟩ x1).setCell ⟨b, 2, none⟩ x2).setCell ⟨b, 3, none⟩ x3).setCell ⟨b, 4, none⟩ x4).setCell ⟨b, 5, none⟩ x5).heap[b]? = some (.cells #[x0, x1, x2, x3, x4, x5, z6, z7, z8, z9, z10] t (0, 0)) := xaN q4 5 x5 rfl
 have q6 : (((((((w.setCell ⟨b, 0, none⟩ x0).setCell ⟨b, 1, none⟩ x1).setCell ⟨b, 2, none⟩ x2).setCell ⟨b, 3, none⟩ x3).setCell ⟨b, 4, none⟩ x4).setCell ⟨b, 5, none⟩ x5).setCell ⟨b, 6, none⟩ x6).heap[b]? = some (.cells #[x0, x1, x2, x3, x4, x5, x6, z7, z8, z9, z10] t (0, 0)) := xaN q5 6 x6 rfl
 have q7 : ((((((((w.setCell ⟨b, 0, none⟩ x0).setCell ⟨b, 1, none⟩ x1).setCell ⟨b, 2, none⟩ x2).setCell ⟨b, 3, none⟩ x3).setCell ⟨b, 4, none⟩ x4).setCell ⟨b, 5, none⟩ x5).setCell ⟨b, 6, none⟩ x6).setCell ⟨b, 7, none⟩ x7).heap[b]? = some (.cells #[x0, x1, x2, x3, x4, x5, x6, x7, z8, z9, z10] t (0, 0)) := xaN q6 7 x7 rfl
 have q8 : (((((((((w.setCell ⟨b, 0, none⟩ x0).setCell ⟨b, 1, none⟩ x1).setCell ⟨b, 2, none⟩ x2).setCell ⟨b, 3, none⟩ x3).setCell ⟨b, 4, none⟩ x4).setCell ⟨b, 5, none⟩ x5).setCell ⟨b, 6, none⟩ x6).setCell ⟨b, 7, none⟩ x7).setCell ⟨b, 8, none⟩ x8).heap[b]? = some (.cells #[x0, x1, x2, x3, x4, x5, x6, x7, x8, z9, z10] t (0, 0)) := xaN q7 8 x8 rfl
 have q9 : ((((((((((w.setCell ⟨b, 0, none⟩ x0).setCell ⟨b, 1, none⟩ x1).setCell ⟨b, 2, none⟩ x2).setCell ⟨b, 3, none⟩ x3).setCell ⟨b, 4, none⟩ x4).setCell ⟨b, 5, none⟩ x5).setCell ⟨b, 6, none⟩ x6).setCell ⟨b, 7, none⟩ x7).setCell ⟨b, 8, none⟩ x8).setCell ⟨b, 9, none⟩ x9).heap[b]? = some (.cells #[x0, x1, x2, x3, x4, x5, x6, x7, x8, x9, z10] t (0, 0)) := xaN q8 9 x9 rfl
 have q10 : (((((((((((w.setCell ⟨b, 0, none⟩ x0).setCell ⟨b, 1, none⟩ x1).setCell ⟨b, 2, none⟩ x2).setCell ⟨b, 3, none⟩ x3).setCell ⟨b, 4, none⟩ x4).setCell ⟨b, 5, none⟩ x5).setCell ⟨b, 6, none⟩ x6).setCell ⟨b, 7, none⟩ x7).setCell ⟨b, 8, none⟩ x8).setCell ⟨b, 9, none⟩ x9).setCell ⟨b, 10, none⟩ x10).heap[b]? = some (.cells #[x0, x1, x2, x3, x4, x5, x6, x7, x8, x9, x10] t (0, 0)) := xaN q9 10 x10 rfl
 exact q10
theorem xmD {w0 w : World} {b : Nat} (x0 x1 x2 x3 x4 x5 x6 x7 x8 x9 x10 : Value) (hb : w0.heap.size ≤ b) (h : Below w0.heap.size w0 w) : Below w0.heap.size w0 (((((((((((w.setCell ⟨b, 0, none⟩ x0).setCell ⟨b, 1, none⟩ x1).setCell ⟨b, 2, none⟩ x2).setCell ⟨b, 3, none⟩ x3).setCell ⟨b, 4, none⟩ x4).setCell ⟨b, 5, none⟩ x5).setCell ⟨b, 6, none⟩ x6).setCell ⟨b, 7, none⟩ x7).setCell ⟨b, 8, none⟩ x8).setCell ⟨b, 9, none⟩ x9).setCell ⟨b, 10, none⟩ x10) :=
  xaF (xaF (xaF (xaF (xaF (xaF (xaF (xaF (xaF (xaF (xaF h hb) hb) hb) hb) hb) hb) hb) hb) hb) hb) hb
theorem xiT (o0 : Int) (o1 o2 : Nat) (o3 o4 o5 o6 o7 o8 : Int) (w : World) (hk : KT w) (h0 : 0 ≤ o0) (h1 : o0 < 8) : Calls Tryz.prog 90 #[.agg #[.int .i64 o0, .float .f64 o1, .float .f64 o2, .int .i64 o3, .int .i64 o4, .int .i64 o5, .int .i64 o6, .int .i64 o7, .int .i64 o8]] w fun e w' => e = .returned (.agg #[.int .i64 (rdI xdS o0), .int .i64 0, .int .i64 0, .float .f64 o1, .float .f64 o2, .int .i64 o3, .int .i64 o4, .int .i64 o5, .int .i64 o6, .int .i64 o7, .int .i64 o8]) ∧ Below w.heap.size w w' := by
 obtain ⟨ka, kc, hkc, hkl, hke⟩ := hk
 have hkj := hke o0.toNat (by omega)
 rw [show ((o0.toNat : Nat) : Int) = o0 by omega] at hkj
 generalize rdI xdS o0 = tk at *
 have B1 := am (xaT (xbF w (.cells #[.int .i64 o0, .float .f64 o1, .float .f64 o2, .int .i64 o3, .int .i64 o4, .int .i64 o5, .int .i64 o6, .int .i64 o7, .int .i64 o8] 37)) (.cells #[.int .i64 0, .int .i64 0, .int .i64 0, .float .f64 0, .float .f64 0, .int .i64 0, .int .i64 0, .int .i64 0, .int .i64 0, .int .i64 0, .int .i64 0] 103))
 have B2 : xaA (((w.alloc (.cells #[.int .i64 o0, .float .f64 o1, .float .f64 o2, .int .i64 o3, .int .i64 o4, .int .i64 o5, .int .i64 o6, .int .i64 o7, .int .i64 o8] 37)).alloc (.cells #[.int .i64 0, .int .i64 0, .int .i64 0, .float .f64 0, .float .f64 0, .int .i64 0, .int .i64 0, .int .i64 0, .int .i64 0, .int .i64 0, .int .i64 0] 103)).heap[w.heap.size + 1]? = some (.cells #[.int .i64 0, .int .i64 0, .int .i64 0, .float .f64 0, .float .f64 0, .int .i64 0, .int .i64 0, .int .i64 0, .int .i64 0, .int .i64 0, .int .i64 0] 103)) := ⟨by have h3 := xbF (w.alloc (.cells #[.int .i64 o0, .float .f64 o1, .float .f64 o2, .int .i64 o3, .int .i64 o4, .int .i64 o5, .int .i64 o6, .int .i64 o7, .int .i64 o8] 37)) (.cells #[.int .i64 0, .int .i64 0, .int .i64 0, .float .f64 0, .float .f64 0, .int .i64 0, .int .i64 0, .int .i64 0, .int .i64 0, .int .i64 0, .int .i64 0] 103); rwa [World.size_alloc] at h3⟩
 have HB := am (xaH (xaH (Below.refl w.heap.size w) (.cells #[.int .i64 o0, .float .f64 o1, .float .f64 o2, .int .i64 o3, .int .i64 o4, .int .i64 o5, .int .i64 o6, .int .i64 o7, .int .i64 o8] 37)) (.cells #[.int .i64 0, .int .i64 0, .int .i64 0, .float .f64 0, .float .f64 0, .int .i64 0, .int .i64 0, .int .i64 0, .int .i64 0, .int .i64 0, .int .i64 0] 103))
 have HKC := am hkc;have HKJ := am hkj;have HKL := am hkl
 have HK0 := am (lt_of_cell hkc)
 clear hkc hkj hke hkl
 go_enter Tryz.func90, Tryz.ntmps90
 go_wp2_with fail
 obtain ⟨b1, hb1⟩ : ∃ b, b = w.heap.size := ⟨_, rfl⟩
 rw [← hb1] at B1 B2 ⊢
 have HB1 := am hb1;clear hb1
 generalize (w.alloc (.cells #[.int .i64 o0, .float .f64 o1, .float .f64 o2, .int .i64 o3, .int .i64 o4, .int .i64 o5, .int .i64 o6, .int .i64 o7, .int .i64 o8] 37)).alloc (.cells #[.int .i64 0, .int .i64 0, .int .i64 0, .float .f64 0, .float .f64 0, .int .i64 0, .int .i64 0, .int .i64 0, .int .i64 0, .int .i64 0, .int .i64 0] 103) = w1 at *
 refine xcA ?_
 refine xbL (n := 23) (S := fun w' => w'.cell? ⟨0, 0, none⟩ = some (.slice (some ka) 8 kc) ∧ w'.cell? (ka.add o0.toNat) = some (.int .i64 tk) ∧ w'.cell? ⟨b1, 0, none⟩ = some (.int .i64 o0) ∧ w'.cell? ⟨b1, 1, none⟩ = some (.float .f64 o1) ∧ w'.cell? ⟨b1, 2, none⟩ = some (.float .f64 o2) ∧ w'.cell? ⟨b1, 3, none⟩ = some (.int .i64 o3) ∧ w'.cell? ⟨b1, 4, none⟩ = some (.int .i64 o4) ∧ w'.cell? ⟨b1, 5, none⟩ = some (.int .i64 o5) ∧ w'.cell? ⟨b1, 6, none⟩ = some (.int .i64 o6) ∧ w'.cell? ⟨b1, 7, none⟩ = some (.int .i64 o7) ∧ w'.cell? ⟨b1, 8, none⟩ = some (.int .i64 o8)) (ds := [22]) #[false, false, false, false, false, false, false, false, false, false, false, false, false, false, false, false, false, false, false, false, false, false, false] (by kernel_rfl) rfl rfl ⟨(HB.out.cell (p := ⟨0, 0, none⟩) HK0.out).trans HKC.out, (HB.out.cell (p := ka.add o0.toNat) (by rw [add_block]; exact HKL.out)).trans HKJ.out, (xaB B1.out 0).trans rfl, (xaB B1.out 1).trans rfl, (xaB B1.out 2).trans rfl, (xaB B1.out 3).trans rfl, (xaB B1.out 4).trans rfl, (xaB B1.out 5).trans rfl, (xaB B1.out 6).trans rfl, (xaB B1.out 7).trans rfl, (xaB B1.out 8).trans rfl⟩ (fun hHeld => ?_)
 replace B2 := am (xaP B2.out)
 replace HB := am (xaK HB.out)
 clear B1
 generalize w1.drew = w2 at *
 refine rT 0 ?_
 refine rP 1 ?_
 refine rT 2 ?_
 refine rP 3 ?_
 refine rT 4 ?_
 refine rP 5 ?_
 refine rT 6 ?_
 refine rP 7 ?_
 refine rT 8 ?_
 refine rP 9 ?_
 refine rT 10 ?_
 refine rP 11 ?_
 refine rT 12 ?_
 refine rP 13 ?_
 refine rT 14 ?_
 refine rP 15 ?_
 refine rT 16 ?_
 refine rP 17 ?_
 refine rT 18 ?_
 refine rP 19 ?_
 refine rT 20 ?_
 refine rP 21 ?_
 clear hHeld
 obtain ⟨⟨d0, d1, d2, d3, d4, d5, d6, d7, d8, d9, d10⟩, y_⟩ := blk11 B2
 refine rL 22 (fun K hK => ?_)
 refine skip_ (w1 := ?_) (by rfl) rfl ?_ ?_
 rotate_left
 ·
  go_simp
  rfl
 refine hK.out _ _ ?_
 clear hK K
 refine rD ?_
 clear d0 d1 d2 d3 d4 d5 d6 d7 d8 d9 d10 y_
 go_wp2_with fail
 have B3 := am (put11 (.int .i64 tk) (.int .i64 0) (.int .i64 0) (.float .f64 o1) (.float .f64 o2) (.int .i64 o3) (.int .i64 o4) (.int .i64 o5) (.int .i64 o6) (.int .i64 o7) (.int .i64 o8) B2.out)
 have HB3 := am (xmD (b := b1 + 1) (.int .i64 tk) (.int .i64 0) (.int .i64 0) (.float .f64 o1) (.float .f64 o2) (.int .i64 o3) (.int .i64 o4) (.int .i64 o5) (.int .i64 o6) (.int .i64 o7) (.int .i64 o8) (by have := HB1.out; omega) HB.out)
 generalize (((((((((((w2.setCell ⟨b1 + 1, 0, none⟩ (.int .i64 tk)).setCell ⟨b1 + 1, 1, none⟩ (.int .i64 0)).setCell ⟨b1 + 1, 2, none⟩ (.int .i64 0)).setCell ⟨b1 + 1, 3, none⟩ (.float .f64 o1)).setCell ⟨b1 + 1, 4, none⟩ (.float .f64 o2)).setCell ⟨b1 + 1, 5, none⟩ (.int .i64 o3)).setCell ⟨b1 + 1, 6, none⟩ (.int .i64 o4)).setCell ⟨b1 + 1, 7, none⟩ (.int .i64 o5)).setCell ⟨b1 + 1, 8, none⟩ (.int .i64 o6)).setCell ⟨b1 + 1, 9, none⟩ (.int .i64 o7)).setCell ⟨b1 + 1, 10, none⟩ (.int .i64 o8)) = w3 at *
 obtain ⟨⟨d0, d1, d2, d3, d4, d5, d6, d7, d8, d9, d10⟩, y_⟩ := blk11 B3
 clear y_
 refine bodyPost_ret (v := .agg #[.int .i64 tk, .int .i64 0, .int .i64 0, .float .f64 o1, .float .f64 o2, .int .i64 o3, .int .i64 o4, .int .i64 o5, .int .i64 o6, .int .i64 o7, .int .i64 o8]) (by simp [results, Tryz.results90, go_sem, d0, d1, d2, d3, d4, d5, d6, d7, d8, d9, d10]) rfl ⟨rfl, HB3.out⟩
def addsB (k : Int) : Bool := k == 2 || k == 3
theorem xiK (k : Int) (w : World) : Calls Tryz.prog 67 #[.int .i64 k] w fun e w' => e = .returned (.bool (addsB k)) ∧ w' = w := by
 unfold addsB
 by_cases h : (k == 2) = true
 ·
  go_enter Tryz.func67, Tryz.ntmps67
  go_wp2
  go_ret
  exact ⟨by simp [h], rfl⟩
 ·
  replace h := Bool.eq_false_iff.2 h
  go_enter Tryz.func67, Tryz.ntmps67
  go_wp2
  go_ret
  exact ⟨by simp [h], rfl⟩
def zeroT : S103 := ⟨1, 0, 0, 0, 0, 0, 0, 0, 0, 0, 0⟩
def treeO (o : S37) : List S103 := if addsB o.f0 = true then [termO o] else [zeroT, termO o]
def xbE (o : S37) : Bool :=
 if o.f0 < 1 ∨ 7 < o.f0 then false
 else if o.f0 = 1 then decide (o.f1 = 0 ∧ o.f2 = 0) && (o.f3 == 0 && (o.f4 == 0 && (o.f5 == 0 && (o.f6 == 0 && (o.f7 == 0 && o.f8 == 0)))))
 else (xbZ (treeO o)).1 == 0
theorem C2 {w : World} (x y : S103) : Kd.C k103 (w.alloc (.cells #[.int .i64 x.f0, .int .i64 x.f1, .int .i64 x.f2, .float .f64 x.f3, .float .f64 x.f4, .int .i64 x.f5, .int .i64 x.f6, .int .i64 x.f7, .int .i64 x.f8, .int .i64 x.f9, .int .i64 x.f10, .int .i64 y.f0, .int .i64 y.f1, .int .i64 y.f2, .float .f64 y.f3, .float .f64 y.f4, .int .i64 y.f5, .int .i64 y.f6, .int .i64 y.f7, .int .i64 y.f8, .int .i64 y.f9, .int .i64 y.f10] 103)) (some ⟨w.heap.size, 0, none⟩) 2 [x, y] := by
 have hn := xbF w (.cells #[.int .i64 x.f0, .int .i64 x.f1, .int .i64 x.f2, .float .f64 x.f3, .float .f64 x.f4, .int .i64 x.f5, .int .i64 x.f6, .int .i64 x.f7, .int .i64 x.f8, .int .i64 x.f9, .int .i64 x.f10, .int .i64 y.f0, .int .i64 y.f1, .int .i64 y.f2, .float .f64 y.f3, .float .f64 y.f4, .int .i64 y.f5, .int .i64 y.f6, .int .i64 y.f7, .int .i64 y.f8, .int .i64 y.f9, .int .i64 y.f10] 103)
 refine ⟨rfl, by omega, fun _ => ⟨_, rfl, fun j q hj => ?_⟩⟩
 match j, hj with
 | 0, hj =>
  obtain rfl : x = q := by simpa using hj
  refine ⟨_, rfl, xiA _ _, fun i u hu => ?_⟩
  rw [Nat.zero_mul, Nat.zero_add, Addr.add_lit, Nat.zero_add, xaB hn]
  match i, hu with
  | 0, hu | 1, hu | 2, hu | 3, hu | 4, hu | 5, hu | 6, hu | 7, hu | 8, hu | 9, hu | 10, hu => exact hu
  | n + 11, hu => simp at hu
 | 1, hj =>
  obtain rfl : y = q := by simpa using hj
  refine ⟨_, rfl, xiA _ _, fun i u hu => ?_⟩
  rw [Addr.add_lit, xaB hn]
  match i, hu with
  | 0, hu | 1, hu | 2, hu | 3, hu | 4, hu | 5, hu | 6, hu | 7, hu | 8, hu | 9, hu | 10, hu => exact hu
  | n + 11, hu => simp at hu
 | n + 2, hj => simp at hj
theorem fieldsO_c (o0 : Int) (o1 o2 : Nat) (o3 o4 o5 o6 o7 o8 : Int) (w : World) (hk : KT w) : Calls Tryz.prog 66 #[.agg #[.int .i64 o0, .float .f64 o1, .float .f64 o2, .int .i64 o3, .int .i64 o4, .int .i64 o5, .int .i64 o6, .int .i64 o7, .int .i64 o8]] w fun e w' => e = .returned (.bool (xbE ⟨o0, o1, o2, o3, o4, o5, o6, o7, o8⟩)) ∧ Below w.heap.size w w' := by
 have HK := am hk;clear hk
 have B1 := am (xbF w (.cells #[.int .i64 o0, .float .f64 o1, .float .f64 o2, .int .i64 o3, .int .i64 o4, .int .i64 o5, .int .i64 o6, .int .i64 o7, .int .i64 o8] 37))
 have HB := am (xaH (Below.refl w.heap.size w) (.cells #[.int .i64 o0, .float .f64 o1, .float .f64 o2, .int .i64 o3, .int .i64 o4, .int .i64 o5, .int .i64 o6, .int .i64 o7, .int .i64 o8] 37))
 have HK1 := am (HK.out.below HB.out)
 obtain ⟨c0, c1, c2, c3, c4, c5, c6, c7, c8, z0, z1, z2, z3, z4, z5, z6, z7, z8⟩ := blk9 B1
 clear z0 z1 z2 z3 z4 z5 z6 z7 z8
 by_cases h1 : o0 < 1
 ·
  have e : xbE ⟨o0, o1, o2, o3, o4, o5, o6, o7, o8⟩ = false := by unfold xbE; rw [if_pos (Or.inl h1)]
  rw [e]
  have t1 : decide (o0 < 1) = true := decide_eq_true h1
  clear e h1
  go_enter Tryz.func66, Tryz.ntmps66
  go_wp2_with (fail)
  go_ret
  exact ⟨rfl, HB.out⟩
 have t1 : decide (o0 < 1) = false := decide_eq_false h1
 by_cases h2 : 7 < o0
 ·
  have e : xbE ⟨o0, o1, o2, o3, o4, o5, o6, o7, o8⟩ = false := by unfold xbE; rw [if_pos (Or.inr h2)]
  rw [e]
  have t2 : decide (7 < o0) = true := decide_eq_true h2
  clear e h1 h2
  go_enter Tryz.func66, Tryz.ntmps66
  go_wp2_with (fail)
  go_ret
  exact ⟨rfl, HB.out⟩
 have t2 : decide (7 < o0) = false := decide_eq_false h2
 by_cases h3 : o0 = 1
 ·
  subst h3
  have e : xbE ⟨1, o1, o2, o3, o4, o5, o6, o7, o8⟩ = (decide (o1 = 0 ∧ o2 = 0) && (o3 == 0 && (o4 == 0 && (o5 == 0 && (o6 == 0 && (o7 == 0 && o8 == 0)))))) := by unfold xbE; rw [if_neg (by simp), if_pos rfl]
  rw [e]
  clear e h1 h2 t1 t2
  have heq := fun d w => eqO d w 1 1 o3 0 o4 0 o5 0 o6 0 o7 0 o8 0 o1 0 o2 0
  by_cases a1 : o1 = 0
  ·
   subst a1
   by_cases a2 : o2 = 0
   ·
    subst a2
    go_enter Tryz.func66, Tryz.ntmps66
    go_wp2_with ((go_at_call 29; (with_reducible refine (xdD _ _).mono ?_); rintro e w' ⟨rfl, hw_⟩; obtain rfl := hw_.symm))
    go_ret
    exact ⟨by first | rfl | simp, HB.out⟩
   ·
    have u2 : ((o2 : Int) == 0) = false := by rw [beq_eq_false_iff_ne]; omega
    have HA := am a2;clear a2
    go_enter Tryz.func66, Tryz.ntmps66
    go_wp2_with ((go_at_call 29; (with_reducible refine (xdD _ _).mono ?_); rintro e w' ⟨rfl, hw_⟩; obtain rfl := hw_.symm))
    go_ret
    exact ⟨by simp [HA.out], HB.out⟩
  ·
   have u1 : ((o1 : Int) == 0) = false := by rw [beq_eq_false_iff_ne]; omega
   have HA := am a1;clear a1
   go_enter Tryz.func66, Tryz.ntmps66
   go_wp2_with ((go_at_call 29; (with_reducible refine (xdD _ _).mono ?_); rintro e w' ⟨rfl, hw_⟩; obtain rfl := hw_.symm))
   go_ret
   exact ⟨by simp [HA.out], HB.out⟩
 have t3 : (o0 == 1) = false := by rw [beq_eq_false_iff_ne]; exact h3
 have e : xbE ⟨o0, o1, o2, o3, o4, o5, o6, o7, o8⟩ = ((xbZ (treeO ⟨o0, o1, o2, o3, o4, o5, o6, o7, o8⟩)).1 == 0) := by unfold xbE; rw [if_neg (by simp only; omega), if_neg h3]
 rw [e]
 have HR : xaA (0 ≤ o0 ∧ o0 < 8) := ⟨by omega⟩
 clear e h1 h2 h3
 go_enter Tryz.func66, Tryz.ntmps66
 go_wp2_with fail
 refine (xiT o0 o1 o2 o3 o4 o5 o6 o7 o8 _ HK1.out HR.out.1 HR.out.2).mono ?_
 rintro e w2 ⟨rfl, hb⟩
 clear c0 c1 c2 c3 c4 c5 c6 c7 c8
 have B2 := am (xaT (xaD B1.out hb) (.cells #[.int .i64 (rdI xdS o0), .int .i64 0, .int .i64 0, .float .f64 o1, .float .f64 o2, .int .i64 o3, .int .i64 o4, .int .i64 o5, .int .i64 o6, .int .i64 o7, .int .i64 o8] 103))
 have HB2 := am (xaH (HB.out.trans (hb.mono HB.out.size)) (.cells #[.int .i64 (rdI xdS o0), .int .i64 0, .int .i64 0, .float .f64 o1, .float .f64 o2, .int .i64 o3, .int .i64 o4, .int .i64 o5, .int .i64 o6, .int .i64 o7, .int .i64 o8] 103))
 have HK2 : xaA (KT (w2.alloc (.cells #[.int .i64 (rdI xdS o0), .int .i64 0, .int .i64 0, .float .f64 o1, .float .f64 o2, .int .i64 o3, .int .i64 o4, .int .i64 o5, .int .i64 o6, .int .i64 o7, .int .i64 o8] 103))) := ⟨HK.out.below HB2.out⟩
 obtain ⟨c0, c1, c2, c3, c4, c5, c6, c7, c8, z0, z1, z2, z3, z4, z5, z6, z7, z8⟩ := blk9 B2
 clear z0 z1 z2 z3 z4 z5 z6 z7 z8 hb
 by_cases ha : addsB o0 = true
 ·
  go_wp2_with ((go_at_call 67; (with_reducible refine (xiK _ _).mono ?_); rintro e w' ⟨rfl, hw_⟩; obtain rfl := hw_.symm; rw [ha]))
  have HA := am ha;clear ha
  refine (check_d [termO ⟨o0, o1, o2, o3, o4, o5, o6, o7, o8⟩] _ 1 _ (lit_C (xiA w2 (termO ⟨o0, o1, o2, o3, o4, o5, o6, o7, o8⟩)))).mono ?_
  rintro e w3 ⟨rfl, hb⟩
  have HB3 := am (HB2.out.trans (hb.mono HB2.out.size))
  clear hb c0 c1 c2 c3 c4 c5 c6 c7 c8
  have et : treeO ⟨o0, o1, o2, o3, o4, o5, o6, o7, o8⟩ = [termO ⟨o0, o1, o2, o3, o4, o5, o6, o7, o8⟩] := by unfold treeO; rw [if_pos HA.out]
  rw [← et]
  clear et
  go_wp2_with fail
  go_ret
  exact ⟨rfl, HB3.out⟩
 ·
  replace ha := Bool.eq_false_iff.2 ha
  go_wp2_with ((go_at_call 67; (with_reducible refine (xiK _ _).mono ?_); rintro e w' ⟨rfl, hw_⟩; obtain rfl := hw_.symm; rw [ha]))
  have HA := am ha;clear ha
  refine (xiT o0 o1 o2 o3 o4 o5 o6 o7 o8 _ HK2.out HR.out.1 HR.out.2).mono ?_
  rintro e w4 ⟨rfl, hb⟩
  have B4 := am (xaT (xaD B2.out hb) (.cells #[.int .i64 1, .int .i64 0, .int .i64 0, .float .f64 0, .float .f64 0, .int .i64 0, .int .i64 0, .int .i64 0, .int .i64 0, .int .i64 0, .int .i64 0, .int .i64 (rdI xdS o0), .int .i64 0, .int .i64 0, .float .f64 o1, .float .f64 o2, .int .i64 o3, .int .i64 o4, .int .i64 o5, .int .i64 o6, .int .i64 o7, .int .i64 o8] 103))
  have HB4 := am (xaH (HB2.out.trans (hb.mono HB2.out.size)) (.cells #[.int .i64 1, .int .i64 0, .int .i64 0, .float .f64 0, .float .f64 0, .int .i64 0, .int .i64 0, .int .i64 0, .int .i64 0, .int .i64 0, .int .i64 0, .int .i64 (rdI xdS o0), .int .i64 0, .int .i64 0, .float .f64 o1, .float .f64 o2, .int .i64 o3, .int .i64 o4, .int .i64 o5, .int .i64 o6, .int .i64 o7, .int .i64 o8] 103))
  clear hb c0 c1 c2 c3 c4 c5 c6 c7 c8
  go_wp2_with fail
  refine (check_d [zeroT, termO ⟨o0, o1, o2, o3, o4, o5, o6, o7, o8⟩] _ 2 _ (C2 zeroT (termO ⟨o0, o1, o2, o3, o4, o5, o6, o7, o8⟩))).mono ?_
  rintro e w5 ⟨rfl, hb⟩
  have HB5 := am (HB4.out.trans (hb.mono HB4.out.size))
  clear hb
  have et : treeO ⟨o0, o1, o2, o3, o4, o5, o6, o7, o8⟩ = [zeroT, termO ⟨o0, o1, o2, o3, o4, o5, o6, o7, o8⟩] := by unfold treeO; rw [if_neg (by rw [HA.out]; decide)]
  rw [← et]
  clear et
  go_wp2_with fail
  go_ret
  exact ⟨rfl, HB5.out⟩
end Go.Proofs.YtkabcgmegljebaaGreatDoor.H
