/- Contracts and facts of functions of the program, joined in one text. -/
import Derived.Test.YtkabcgmegljebaaGreatDoorRGA
import Derived.Test.YtkabcgmegljebaaGreatDoorRGE
import Derived.Test.YtkabcgmegljebaaGreatDoorRGD
set_option maxHeartbeats 8000000
set_option maxRecDepth 100000
set_option linter.unusedVariables false
set_option linter.unusedSimpArgs false
namespace Go.Proofs.YtkabcgmegljebaaGreatDoor.H
open Go.RowKit Go.Proofs.YtkabcgmegljebaaGreatDoorW.PrintWords Go.Proofs.YtkabcgmegljebaaGreatDoorW.PrintLast Go.Proofs.YtkabcgmegljebaaGreatDoorW.PrintMore
open Go.Proofs.YtkabcgmegljebaaGreatDoor.Q
section
variable {w : World} {base g : Nat} {F : Nat → Prop} {Ac : Option Addr} {cc : Nat} {Af : Option Addr} {cf : Nat} {Am : Option Addr} {cm : Nat} {s : St}
theorem flowGive' (A : Option Addr) (c n : Nat) (l : List S48) (w : World) (hr : Kd.C k48 w A n l) (hn : l.length = n) (hl : n ≤ 4096) :
  Calls Tryz.prog 73 #[.slice A n c] w fun e w' => ∃ A' c', e = .returned (.slice A' (l.map ngF).length c') ∧ Kd.C k48 w' A' (l.map ngF).length (l.map ngF) ∧ Below w.heap.size w w' := by
 subst hn
 refine (flowGive A c l w hr hl).mono ?_
 rintro e w' ⟨v, rfl, ho, hb⟩
 obtain ⟨A', c', rfl, hs⟩ := Sl.of_R ho
 exact ⟨A', c', rfl, hs.C, hb⟩
theorem flowWindow' (a b : Int) (A : Option Addr) (c n : Nat) (l : List S48) (w : World) (hr : Kd.C k48 w A n l) (hn : l.length = n) (hl : n ≤ 4096) :
  Calls Tryz.prog 75 #[.slice A n c, .int .i64 a, .int .i64 b] w fun e w' => ∃ A' c', e = .returned (.slice A' (l.filter (inW a b)).length c') ∧ Kd.C k48 w' A' (l.filter (inW a b)).length (l.filter (inW a b)) ∧ Below w.heap.size w w' := by
 subst hn
 exact flowWindow a b A c l w hr hl
theorem give_ok (h : Mx w base g F Ac cc Af cf Am cm s) (ms : List Int) (m : Nat) (hms : s.marks = ms ++ [(m : Int)]) (hm : m ≤ s.flows.length) (hl : ms.length < 10000) (hfl : s.flows.length ≤ 4096) (o0 : Int) (o1 o2 : Nat) (o3 o4 o5 o6 o7 o8 : Int) :
  Calls Tryz.prog 54 #[.pointer (some ⟨g, 0, none⟩), .agg #[.int .i64 o0, .float .f64 o1, .float .f64 o2, .int .i64 o3, .int .i64 o4, .int .i64 o5, .int .i64 o6, .int .i64 o7, .int .i64 o8]] w fun e w' => e = .returned (.int .i64 0) ∧ Fr F w w' ∧ ∃ Af' cf', Mx w' base g (Gr F w.heap.size w'.heap.size) Ac cc Af' cf' Am cm { s with marks := ms, flows := s.flows.take m ++ ((s.flows.drop m).map ngF) } := by
 have HX := am h;have HM := am hms;have HLE := am hm;have HL := am hl;have HFL := am hfl
 have hcf : m ≤ cf := Nat.le_trans hm h.f.le
 have HCF := am hcf;clear h hms hm hl hfl
 go_enter Tryz.func54, Tryz.ntmps54
 go_wp2_with (first | ((with_reducible refine xaJ (N := 3) rfl ?_); refine bxv 3 #[.int .i64 o0, .float .f64 o1, .float .f64 o2, .int .i64 o3, .int .i64 o4, .int .i64 o5, .int .i64 o6, .int .i64 o7, .int .i64 o8] 37 ?_; intro gb hg w1 hbox hb; have HX1 := am (HX.out.below hb); have HF1 := am ((Fr.refl F w).below hb); have BK := am hbox; have HG := am hg; clear hb hbox hg) | (go_at_call 78; go_loud ((with_reducible refine (xhB HX1.out ms m HM.out HLE.out HL.out).mono ?_); rintro e w2 ⟨A', rfl, hf, hx, hc⟩; have hgb : ¬ F gb := fun hk => (by have := (HX.out.hF _ hk).2; have := HG.out; omega); have HX2 := am hx; have HF2 := am (HF1.out.step hf); have HC := am hc; replace BK := am (hf.blk BK.out hgb); have HS2 := am hf.size; clear hf hx hc hgb)))
 have HD := am (show (s.flows.drop m).length = s.flows.length - m from List.length_drop)
 replace HX2 := am HX2.out.drew;replace HF2 := am HF2.out.drew
 replace HC := am (Kd.C_drew HC.out)
 replace BK := am (xaP BK.out)
 have HGB : xaA (¬ F gb ∧ gb < w2.drew.heap.size) := ⟨fun hk => (by have := (HX.out.hF _ hk).2; have := HG.out; omega), xaM BK.out⟩
 refine xbL (n := 14) (S := fun w' => w'.cell? ⟨g, 2, none⟩ = some (.slice Af s.flows.length cf)) (ds := [13]) #[false, false, false, false, false, false, false, false, false, false, false, false, false, false] (by kernel_rfl) rfl rfl ((xaB HX2.out.k 2).trans rfl) (fun hHeld => ?_)
 generalize hw3 : w2.drew = w3 at *
 clear hw3
 refine rP 0 ?_
 refine rP 1 ?_
 refine rP 2 ?_
 refine rP 3 ?_
 refine rP 5 ?_
 refine rP 6 ?_
 refine rT 4 ?_
 refine rP 7 ?_
 refine rP 8 ?_
 refine rO 9 (fun K hK => ?_)
 refine goes_ Tryz.func73 (by kernel_rfl) rfl #[.slice A' (s.flows.length - m) (cf - m)] (by rfl) rfl rfl (by (try simp only [List.map_toArray, List.map_cons, List.map_nil]); first | done | rfl) ?_
 have HTL : xaA ((s.flows.take m).length = m) := ⟨by rw [List.length_take]; have := HLE.out; omega⟩
 have HYL : xaA (((s.flows.drop m).map ngF).length ≤ s.flows.length - m) := ⟨by rw [← HD.out]; rw [List.length_map]; exact Nat.le_refl _⟩
 with_reducible refine (flowGive' _ _ _ _ _ HC.out HD.out (by have := HFL.out; omega)).mono ?_
 rintro e w4 ⟨A4, k4, rfl, hy, hb⟩
 refine ⟨_, rfl, ?_⟩
 have HX4 := am (HX2.out.below hb)
 have HF4 := am (HF2.out.below hb)
 have BK4 := am (xaD BK.out hb)
 have HY := am hy;clear hy hb
 refine hK.out _ _ ((xaB HX4.out.k 2).trans rfl) (fun hHeld => ?_)
 clear hK K
 refine rN ?_
 refine rO 10 (fun K hK => ?_)
 refine Sl.xfA (by rfl) (.tmp 19) (.tmp 21) 24 (.agg #[.int .i64 0, .float .f64 0, .int .i64 0]) 24 rfl Tryz.underlying24 xeA rfl (by decide) (by omega) (xs := s.flows.take m) (c := m) (ys := ((s.flows.drop m).map ngF)) (by rw [HTL.out]; rfl) rfl (HX4.out.f.head m m HLE.out (Nat.le_refl _) HCF.out) HY.out HX4.out.xbJ (by have := HFL.out; have := HLE.out; have := HYL.out; rw [HTL.out]; omega) ?_
 intro A1 n1 w5 ho hf _
 have H1 := am (HX4.out.xiS hf)
 have HF5 := am (HF4.out.step H1.out.2.2.2)
 replace BK4 := am (H1.out.2.2.2.blk BK4.out HGB.out.1)
 have HO := am ho;clear ho hf hHeld
 refine hK.out _ _ ((xaB H1.out.1 2).trans rfl) (fun hHeld => ?_)
 clear hK K hHeld
 refine rN ?_
 refine rP 11 ?_
 refine rP 12 ?_
 obtain ⟨c0, c1, c2, c3, c4, c5, z0, z1, z2, z3, z4, z5⟩ := blk6 H1.out.1
 refine rL 13 (fun K hK => ?_)
 refine skip_ (w1 := ?_) (by rfl) rfl ?_ ?_
 rotate_left
 ·
  go_simp
  rfl
 refine hK.out _ _ ?_
 clear hK K
 refine rD ?_
 go_wp2
 go_ret
 have hs : w.heap.size ≤ w5.heap.size := HF5.out.size
 refine ⟨rfl, HF5.out.set _ (Or.inl HX.out.hg), A1, n1, ?_⟩
 have e2 : ∀ u, (w5.setCell ⟨g, 2, none⟩ u).heap.size = w5.heap.size := fun u => by simp
 have e3 : (s.flows.take m).length + ((s.flows.drop m).map ngF).length = (s.flows.take m ++ ((s.flows.drop m).map ngF)).length := by rw [List.length_append]
 have e4 : Mx (w5.setCell ⟨g, 2, none⟩ (.slice A1 ((s.flows.take m).length + ((s.flows.drop m).map ngF).length) n1)) base g (Gr F w.heap.size w5.heap.size) Ac cc A1 n1 Am cm { s with marks := ms, flows := s.flows.take m ++ ((s.flows.drop m).map ngF) } := by
  rw [e3]
  exact Mx.put 2 _ H1.out.1 rfl H1.out.2.1 (HO.out.gr2 HF4.out.size) H1.out.2.2.1.gr (Or.inl HX.out.hg) (gr_bd HX.out.hF HX.out.xbJ hs) (HX.out.hc_gr _)
 rw [e2]
 simpa using e4
theorem window_ok (h : Mx w base g F Ac cc Af cf Am cm s) (ms : List Int) (m : Nat) (hms : s.marks = ms ++ [(m : Int)]) (hm : m ≤ s.flows.length) (hl : ms.length < 10000) (hfl : s.flows.length ≤ 4096) (o0 : Int) (o1 o2 : Nat) (o3 o4 o5 o6 o7 o8 : Int) :
  Calls Tryz.prog 56 #[.pointer (some ⟨g, 0, none⟩), .agg #[.int .i64 o0, .float .f64 o1, .float .f64 o2, .int .i64 o3, .int .i64 o4, .int .i64 o5, .int .i64 o6, .int .i64 o7, .int .i64 o8]] w fun e w' => e = .returned (.int .i64 0) ∧ Fr F w w' ∧ ∃ Af' cf', Mx w' base g (Gr F w.heap.size w'.heap.size) Ac cc Af' cf' Am cm { s with marks := ms, flows := s.flows.take m ++ ((s.flows.drop m).filter (inW o3 o4)) } := by
 have HX := am h;have HM := am hms;have HLE := am hm;have HL := am hl;have HFL := am hfl
 have hcf : m ≤ cf := Nat.le_trans hm h.f.le
 have HCF := am hcf;clear h hms hm hl hfl
 go_enter Tryz.func56, Tryz.ntmps56
 go_wp2_with (first | ((with_reducible refine xaJ (N := 3) rfl ?_); refine bxv 3 #[.int .i64 o0, .float .f64 o1, .float .f64 o2, .int .i64 o3, .int .i64 o4, .int .i64 o5, .int .i64 o6, .int .i64 o7, .int .i64 o8] 37 ?_; intro gb hg w1 hbox hb; have HX1 := am (HX.out.below hb); have HF1 := am ((Fr.refl F w).below hb); have BK := am hbox; have HG := am hg; clear hb hbox hg) | (go_at_call 78; go_loud ((with_reducible refine (xhB HX1.out ms m HM.out HLE.out HL.out).mono ?_); rintro e w2 ⟨A', rfl, hf, hx, hc⟩; have hgb : ¬ F gb := fun hk => (by have := (HX.out.hF _ hk).2; have := HG.out; omega); have HX2 := am hx; have HF2 := am (HF1.out.step hf); have HC := am hc; replace BK := am (hf.blk BK.out hgb); have HS2 := am hf.size; clear hf hx hc hgb)))
 have HD := am (show (s.flows.drop m).length = s.flows.length - m from List.length_drop)
 replace HX2 := am HX2.out.drew;replace HF2 := am HF2.out.drew
 replace HC := am (Kd.C_drew HC.out)
 replace BK := am (xaP BK.out)
 have HGB : xaA (¬ F gb ∧ gb < w2.drew.heap.size) := ⟨fun hk => (by have := (HX.out.hF _ hk).2; have := HG.out; omega), xaM BK.out⟩
 refine xbL (n := 18) (S := fun w' => w'.cell? ⟨g, 2, none⟩ = some (.slice Af s.flows.length cf) ∧ w'.cell? ⟨gb, 3, none⟩ = some (.int .i64 o3) ∧ w'.cell? ⟨gb, 4, none⟩ = some (.int .i64 o4)) (ds := [17]) #[false, false, false, false, false, false, false, false, false, false, false, false, false, false, false, false, false, false] (by kernel_rfl) rfl rfl ⟨(xaB HX2.out.k 2).trans rfl, (xaB BK.out 3).trans rfl, (xaB BK.out 4).trans rfl⟩ (fun hHeld => ?_)
 generalize hw3 : w2.drew = w3 at *
 clear hw3
 refine rP 0 ?_
 refine rP 1 ?_
 refine rP 2 ?_
 refine rP 3 ?_
 refine rP 5 ?_
 refine rP 6 ?_
 refine rP 8 ?_
 refine rP 9 ?_
 refine rP 11 ?_
 refine rT 4 ?_
 refine rT 10 ?_
 refine rT 12 ?_
 refine rP 7 ?_
 refine rO 13 (fun K hK => ?_)
 refine goes_ Tryz.func75 (by kernel_rfl) rfl #[.slice A' (s.flows.length - m) (cf - m), .int .i64 o3, .int .i64 o4] (by rfl) rfl rfl (by (try simp only [List.map_toArray, List.map_cons, List.map_nil]); first | done | rfl) ?_
 have HTL : xaA ((s.flows.take m).length = m) := ⟨by rw [List.length_take]; have := HLE.out; omega⟩
 have HYL : xaA (((s.flows.drop m).filter (inW o3 o4)).length ≤ s.flows.length - m) := ⟨by rw [← HD.out]; exact List.length_filter_le _ _⟩
 with_reducible refine (flowWindow' _ _ _ _ _ _ _ HC.out HD.out (by have := HFL.out; omega)).mono ?_
 rintro e w4 ⟨A4, k4, rfl, hy, hb⟩
 refine ⟨_, rfl, ?_⟩
 have HX4 := am (HX2.out.below hb)
 have HF4 := am (HF2.out.below hb)
 have BK4 := am (xaD BK.out hb)
 have HY := am hy;clear hy hb
 refine hK.out _ _ ⟨(xaB HX4.out.k 2).trans rfl, (xaB BK4.out 3).trans rfl, (xaB BK4.out 4).trans rfl⟩ (fun hHeld => ?_)
 clear hK K
 refine rN ?_
 refine rO 14 (fun K hK => ?_)
 refine Sl.xfA (by rfl) (.tmp 19) (.tmp 25) 24 (.agg #[.int .i64 0, .float .f64 0, .int .i64 0]) 24 rfl Tryz.underlying24 xeA rfl (by decide) (by omega) (xs := s.flows.take m) (c := m) (ys := ((s.flows.drop m).filter (inW o3 o4))) (by rw [HTL.out]; rfl) rfl (HX4.out.f.head m m HLE.out (Nat.le_refl _) HCF.out) HY.out HX4.out.xbJ (by have := HFL.out; have := HLE.out; have := HYL.out; rw [HTL.out]; omega) ?_
 intro A1 n1 w5 ho hf _
 have H1 := am (HX4.out.xiS hf)
 have HF5 := am (HF4.out.step H1.out.2.2.2)
 replace BK4 := am (H1.out.2.2.2.blk BK4.out HGB.out.1)
 have HO := am ho;clear ho hf hHeld
 refine hK.out _ _ ⟨(xaB H1.out.1 2).trans rfl, (xaB BK4.out 3).trans rfl, (xaB BK4.out 4).trans rfl⟩ (fun hHeld => ?_)
 clear hK K hHeld
 refine rN ?_
 refine rP 15 ?_
 refine rP 16 ?_
 obtain ⟨c0, c1, c2, c3, c4, c5, z0, z1, z2, z3, z4, z5⟩ := blk6 H1.out.1
 refine rL 17 (fun K hK => ?_)
 refine skip_ (w1 := ?_) (by rfl) rfl ?_ ?_
 rotate_left
 ·
  go_simp
  rfl
 refine hK.out _ _ ?_
 clear hK K
 refine rD ?_
 go_wp2
 go_ret
 have hs : w.heap.size ≤ w5.heap.size := HF5.out.size
 refine ⟨rfl, HF5.out.set _ (Or.inl HX.out.hg), A1, n1, ?_⟩
 have e2 : ∀ u, (w5.setCell ⟨g, 2, none⟩ u).heap.size = w5.heap.size := fun u => by simp
 have e3 : (s.flows.take m).length + ((s.flows.drop m).filter (inW o3 o4)).length = (s.flows.take m ++ ((s.flows.drop m).filter (inW o3 o4))).length := by rw [List.length_append]
 have e4 : Mx (w5.setCell ⟨g, 2, none⟩ (.slice A1 ((s.flows.take m).length + ((s.flows.drop m).filter (inW o3 o4)).length) n1)) base g (Gr F w.heap.size w5.heap.size) Ac cc A1 n1 Am cm { s with marks := ms, flows := s.flows.take m ++ ((s.flows.drop m).filter (inW o3 o4)) } := by
  rw [e3]
  exact Mx.put 2 _ H1.out.1 rfl H1.out.2.1 (HO.out.gr2 HF4.out.size) H1.out.2.2.1.gr (Or.inl HX.out.hg) (gr_bd HX.out.hF HX.out.xbJ hs) (HX.out.hc_gr _)
 rw [e2]
 simpa using e4
end
theorem flowScale_ok' (y : Nat) (A : Option Addr) (c n : Nat) (l : List S48) (w : World) (hr : Kd.C k48 w A n l) (hn : l.length = n) (hl : n ≤ 4096) (hy : numB y = true) (hx : ∀ f ∈ l, numB f.f1 = true) (hok : ∀ f ∈ l, numB (mulN y f.f1) = true) :
  Calls Tryz.prog 74 #[.float .f64 y, .slice A n c] w fun e w' => ∃ A' c', e = .returned (.tuple #[.slice A' (l.map (scF y)).length c', .int .i64 0]) ∧ Kd.C k48 w' A' (l.map (scF y)).length (l.map (scF y)) ∧ Below w.heap.size w w' := by
 subst hn
 refine (xlN y A c l w hr hl hy hx hok).mono ?_
 rintro e w' ⟨v, rfl, ho, hb⟩
 obtain ⟨A', c', rfl, hs⟩ := Sl.of_R ho
 exact ⟨A', c', rfl, hs.C, hb⟩
theorem flowScale_bad' (y : Nat) (A : Option Addr) (c n : Nat) (l : List S48) (w : World) (hr : Kd.C k48 w A n l) (hn : l.length = n) (hl : n ≤ 4096) (hy : numB y = true) (hx : ∀ f ∈ l, numB f.f1 = true) (hbad : ∃ f ∈ l, numB (mulN y f.f1) = false) :
  Calls Tryz.prog 74 #[.float .f64 y, .slice A n c] w fun e w' => e = .returned (.tuple #[.slice none 0 0, .int .i64 91]) ∧ Below w.heap.size w w' := by
 subst hn
 exact xkK y A c l w hr hl hy hx hbad
section
variable {w : World} {base g : Nat} {F : Nat → Prop} {Ac : Option Addr} {cc : Nat} {Af : Option Addr} {cf : Nat} {Am : Option Addr} {cm : Nat} {s : St}
theorem scale_ok (h : Mx w base g F Ac cc Af cf Am cm s) (ms : List Int) (m : Nat) (hms : s.marks = ms ++ [(m : Int)]) (hm : m ≤ s.flows.length) (hl : ms.length < 10000) (hfl : s.flows.length ≤ 4096) (o0 : Int) (o1 o2 : Nat) (o3 o4 o5 o6 o7 o8 : Int) (hy : numB o1 = true) (hx : ∀ f ∈ s.flows.drop m, numB f.f1 = true) (hok : ∀ f ∈ s.flows.drop m, numB (mulN o1 f.f1) = true) :
  Calls Tryz.prog 55 #[.pointer (some ⟨g, 0, none⟩), .agg #[.int .i64 o0, .float .f64 o1, .float .f64 o2, .int .i64 o3, .int .i64 o4, .int .i64 o5, .int .i64 o6, .int .i64 o7, .int .i64 o8]] w fun e w' => e = .returned (.int .i64 0) ∧ Fr F w w' ∧ ∃ Af' cf', Mx w' base g (Gr F w.heap.size w'.heap.size) Ac cc Af' cf' Am cm { s with marks := ms, flows := s.flows.take m ++ ((s.flows.drop m).map (scF o1)) } := by
 have HX := am h;have HM := am hms;have HLE := am hm;have HL := am hl;have HFL := am hfl
 have hcf : m ≤ cf := Nat.le_trans hm h.f.le
 have HCF := am hcf;clear h hms hm hl hfl;have HYN := am hy;have HXN := am hx;have HOKN := am hok;clear hy hx hok
 have HD := am (show (s.flows.drop m).length = s.flows.length - m from List.length_drop)
 have HTL : xaA ((s.flows.take m).length = m) := ⟨by rw [List.length_take]; have := HLE.out; omega⟩
 have HYL : xaA (((s.flows.drop m).map (scF o1)).length = s.flows.length - m) := ⟨by rw [← HD.out, List.length_map]⟩
 go_enter Tryz.func55, Tryz.ntmps55
 go_wp2_with (first | ((with_reducible refine xaJ (N := 3) rfl ?_); refine bxv 3 #[.int .i64 o0, .float .f64 o1, .float .f64 o2, .int .i64 o3, .int .i64 o4, .int .i64 o5, .int .i64 o6, .int .i64 o7, .int .i64 o8] 37 ?_; intro gb hg w1 hbox hb; have HX1 := am (HX.out.below hb); have HF1 := am ((Fr.refl F w).below hb); have BK := am hbox; have HG := am hg; clear hb hbox hg) | (go_at_call 78; go_loud ((with_reducible refine (xhB HX1.out ms m HM.out HLE.out HL.out).mono ?_); rintro e w2 ⟨A', rfl, hf, hx, hc⟩; have hgb : ¬ F gb := fun hk => (by have := (HX.out.hF _ hk).2; have := HG.out; omega); have HX2 := am hx; have HF2 := am (HF1.out.step hf); have HC := am hc; replace BK := am (hf.blk BK.out hgb); have HS2 := am hf.size; clear hf hx hc hgb; obtain ⟨_,_,_,_,_,_,_,_,_,_,_,_,_,_,_,_,_,_⟩ := blk9 BK)) | (go_at_call 74; go_loud ((with_reducible refine (flowScale_ok' _ _ _ _ _ _ HC.out HD.out (by have := HFL.out; omega) HYN.out HXN.out HOKN.out).mono ?_); rintro e w4 ⟨A4, k4, rfl, hy, hb⟩; have HX4 := am (HX2.out.below hb); have HF4 := am (HF2.out.below hb); have HY := am hy; clear hy hb; obtain ⟨c0, c1, c2, c3, c4, c5, z0, z1, z2, z3, z4, z5⟩ := blk6 HX4.out.k)) | ((with_reducible refine xaR (b := .append) (xs := #[.tmp 29, .tmp 30]) rfl ?_); go_loud (refine Sl.xkQ rfl (.tmp 29) (.tmp 30) 24 (.agg #[.int .i64 0, .float .f64 0, .int .i64 0]) 24 rfl Tryz.underlying24 xeA rfl (by decide) (by omega) (xs := s.flows.take m) (c := m) (ys := ((s.flows.drop m).map (scF o1))) (by rw [HTL.out]; rfl) rfl (HX4.out.f.head m m HLE.out (Nat.le_refl _) HCF.out) (by have h_ := HY.out; rwa [HYL.out] at h_) HX4.out.xbJ (by have := HFL.out; have := HLE.out; have := HYL.out; rw [HTL.out]; omega) ?_; intro A1 n1 w5 ho hf _; have H1 := am (HX4.out.xiS hf); have HF5 := am (HF4.out.step H1.out.2.2.2); have HO := am ho; clear ho hf c0 c1 c2 c3 c4 c5 z0 z1 z2 z3 z4 z5; obtain ⟨c0, c1, c2, c3, c4, c5, z0, z1, z2, z3, z4, z5⟩ := blk6 H1.out.1)))
 go_ret
 have hs : w.heap.size ≤ w5.heap.size := HF5.out.size
 refine ⟨rfl, HF5.out.set _ (Or.inl HX.out.hg), A1, n1, ?_⟩
 have e2 : ∀ u, (w5.setCell ⟨g, 2, none⟩ u).heap.size = w5.heap.size := fun u => by simp
 have e3 : (s.flows.take m).length + (s.flows.length - m) = (s.flows.take m ++ ((s.flows.drop m).map (scF o1))).length := by rw [List.length_append, HYL.out]
 have e4 : Mx (w5.setCell ⟨g, 2, none⟩ (.slice A1 ((s.flows.take m).length + (s.flows.length - m)) n1)) base g (Gr F w.heap.size w5.heap.size) Ac cc A1 n1 Am cm { s with marks := ms, flows := s.flows.take m ++ ((s.flows.drop m).map (scF o1)) } := by
  rw [e3]
  exact Mx.put 2 _ H1.out.1 rfl H1.out.2.1 (HO.out.gr2 HF4.out.size) H1.out.2.2.1.gr (Or.inl HX.out.hg) (gr_bd HX.out.hF HX.out.xbJ hs) (HX.out.hc_gr _)
 rw [e2]
 simpa using e4
theorem scale_bad (h : Mx w base g F Ac cc Af cf Am cm s) (ms : List Int) (m : Nat) (hms : s.marks = ms ++ [(m : Int)]) (hm : m ≤ s.flows.length) (hl : ms.length < 10000) (hfl : s.flows.length ≤ 4096) (o0 : Int) (o1 o2 : Nat) (o3 o4 o5 o6 o7 o8 : Int) (hy : numB o1 = true) (hx : ∀ f ∈ s.flows.drop m, numB f.f1 = true) (hok : ∃ f ∈ s.flows.drop m, numB (mulN o1 f.f1) = false) :
  Calls Tryz.prog 55 #[.pointer (some ⟨g, 0, none⟩), .agg #[.int .i64 o0, .float .f64 o1, .float .f64 o2, .int .i64 o3, .int .i64 o4, .int .i64 o5, .int .i64 o6, .int .i64 o7, .int .i64 o8]] w fun e w' => e = .returned (.int .i64 91) ∧ Fr F w w' ∧ Mx w' base g F Ac cc Af cf Am cm { s with marks := ms } := by
 have HX := am h;have HM := am hms;have HLE := am hm;have HL := am hl;have HFL := am hfl
 have hcf : m ≤ cf := Nat.le_trans hm h.f.le
 have HCF := am hcf;clear h hms hm hl hfl;have HYN := am hy;have HXN := am hx;have HOKN := am hok;clear hy hx hok
 have HD := am (show (s.flows.drop m).length = s.flows.length - m from List.length_drop)
 go_enter Tryz.func55, Tryz.ntmps55
 go_wp2_with (first | ((with_reducible refine xaJ (N := 3) rfl ?_); refine bxv 3 #[.int .i64 o0, .float .f64 o1, .float .f64 o2, .int .i64 o3, .int .i64 o4, .int .i64 o5, .int .i64 o6, .int .i64 o7, .int .i64 o8] 37 ?_; intro gb hg w1 hbox hb; have HX1 := am (HX.out.below hb); have HF1 := am ((Fr.refl F w).below hb); have BK := am hbox; have HG := am hg; clear hb hbox hg) | (go_at_call 78; go_loud ((with_reducible refine (xhB HX1.out ms m HM.out HLE.out HL.out).mono ?_); rintro e w2 ⟨A', rfl, hf, hx, hc⟩; have hgb : ¬ F gb := fun hk => (by have := (HX.out.hF _ hk).2; have := HG.out; omega); have HX2 := am hx; have HF2 := am (HF1.out.step hf); have HC := am hc; replace BK := am (hf.blk BK.out hgb); have HS2 := am hf.size; clear hf hx hc hgb; obtain ⟨_,_,_,_,_,_,_,_,_,_,_,_,_,_,_,_,_,_⟩ := blk9 BK)) | (go_at_call 74; go_loud ((with_reducible refine (flowScale_bad' _ _ _ _ _ _ HC.out HD.out (by have := HFL.out; omega) HYN.out HXN.out HOKN.out).mono ?_); rintro e w4 ⟨rfl, hb⟩; have HX4 := am (HX2.out.below hb); have HF4 := am (HF2.out.below hb); clear hb)))
 go_ret
 exact ⟨rfl, HF4.out, HX4.out⟩
end
def mon (d n : Int) : Int × Int := M.xdX d n false
theorem xlG (d n : Int) (w : World) : Calls Tryz.prog 79 #[.int .i64 d, .int .i64 n, .bool false] w fun e w' => e = .returned (.tuple #[.int .i64 (mon d n).1, .int .i64 (mon d n).2]) ∧ ∃ k, w' = w.drewN k := by
 obtain ⟨K, hK⟩ := L.Months d n false
 refine (xbA.calls K d n false (mon d n).1 (mon d n).2 w (hK K (Nat.le_refl _))).mono ?_
 rintro e w' ⟨rfl, nd, rfl⟩
 exact ⟨rfl, nd, rfl⟩
def pushes (mo : Int) (acc : List S48) : List (Int × S48) → List S48 × Int
  | [] => (acc, 0)
  | p :: r => if acc.length = 4096 then (acc, 81) else if (mon p.2.f0 (p.1 * mo)).2 = 0 then pushes mo (acc ++ [⟨(mon p.2.f0 (p.1 * mo)).1, p.2.f1, p.2.f2⟩]) r else (acc, (mon p.2.f0 (p.1 * mo)).2)
def pairs (l : List S48) (k n : Nat) : List (Int × S48) := (List.range' k (n - k)).flatMap (fun (j : Nat) => l.map (fun f => ((j : Int), f)))
theorem xgN (l : List S48) (k n : Nat) (h : k < n) : pairs l k n = l.map (fun f => ((k : Int), f)) ++ pairs l (k + 1) n := by
 unfold pairs
 obtain ⟨d, hd⟩ : ∃ d, n - k = d + 1 := ⟨n - k - 1, by omega⟩
 rw [hd, show n - (k + 1) = d by omega, List.range'_succ]
 rfl
theorem xhV (l : List S48) (k n : Nat) (h : n ≤ k) : pairs l k n = [] := by unfold pairs; rw [show n - k = 0 by omega]; rfl
theorem pairs_nil (k n : Nat) : pairs [] k n = [] := by unfold pairs; simp
theorem Gr.flat {F : Nat → Prop} {n0 n1 n2 m : Nat} (h1 : n0 ≤ n1) (h2 : n1 ≤ m) (h3 : n0 ≤ n2) : ∀ k, Gr (Gr F n0 n1) n2 m k → Gr F n0 m k := fun k hk => by
 rcases hk with (hk | hk) | hk
 ·
  exact Or.inl hk
 ·
  exact Or.inr (by omega)
 ·
  exact Or.inr (by omega)
structure RepI (w wr : World) (base g : Nat) (F : Nat → Prop) (Ac : Option Addr) (cc : Nat) (Af : Option Addr) (cf : Nat) (Am : Option Addr) (cm : Nat) (s : St) (ms : List Int) (cur : List S48) : Prop where
 bl : base ≤ w.heap.size
 fr : Fr F w wr
 mx : ∃ A1 c1, Mx wr base g (Gr F w.heap.size wr.heap.size) Ac cc A1 c1 Am cm { s with marks := ms, flows := cur } ∧ (∀ a a', A1 = some a → Af = some a' → a'.block = a.block → a'.off + s.flows.length * 3 ≤ a.off + cur.length * 3)
 old : Sl k48 48 wr base F Af cf s.flows
 cl : ∀ k, own Ac k → k < w.heap.size
section
variable {w wr w1 : World} {base g : Nat} {F : Nat → Prop} {Ac : Option Addr} {cc : Nat} {Af : Option Addr} {cf : Nat} {Am : Option Addr} {cm : Nat} {s : St} {ms : List Int} {cur : List S48}
theorem Mx.up {n m1 : Nat} {s : St} {A1 : Option Addr} {c1 : Nat} (h : Mx w1 base g (Gr F n m1) Ac cc A1 c1 Am cm s) (hm : m1 ≤ w1.heap.size) (hb : base ≤ n) (hc : ∀ k, own Ac k → k < n) : Mx w1 base g (Gr F n w1.heap.size) Ac cc A1 c1 Am cm s :=
 h.mono (fun k hk => by
  rcases hk with hk | hk
  ·
   exact Or.inl hk
  ·
   exact Or.inr ⟨hk.1, Nat.lt_of_lt_of_le hk.2 hm⟩) (fun k hk => by
  rcases hk with hk | hk
  ·
   exact h.hF k (Or.inl hk)
  ·
   omega) (fun k hk hg => by
  rcases hg with h1 | h1
  ·
   exact h.hc k hk (Or.inl h1)
  ·
   have := hc k hk; omega)
theorem RepI.below (h : RepI w wr base g F Ac cc Af cf Am cm s ms cur) (hb : Below wr.heap.size wr w1) : RepI w w1 base g F Ac cc Af cf Am cm s ms cur := by
 obtain ⟨A1, c1, hx, hr⟩ := h.mx
 have hs := h.fr.size
 exact ⟨h.bl, h.fr.below hb, ⟨A1, c1, (hx.below hb).mono (fun k hk => by rcases hk with hk | hk; exact Or.inl hk; exact Or.inr ⟨hk.1, Nat.lt_of_lt_of_le hk.2 hb.size⟩) (fun k hk => by
  rcases hk with hk | hk
  ·
   have h1 := hx.hF k (Or.inl hk); exact ⟨h1.1, Nat.lt_of_lt_of_le h1.2 hb.size⟩
  ·
   have := h.bl; omega) (fun k hk hg => by
  rcases hg with h1 | h1
  ·
   exact hx.hc k hk (Or.inl h1)
  ·
   have := h.cl k hk; omega), hr⟩, h.old.below hb, h.cl⟩
theorem RepI.push {A1 A2 : Option Addr} {c1 c2 : Nat} {w3 : World} {x : S48} (h : RepI w wr base g F Ac cc Af cf Am cm s ms cur) (hx : Mx wr base g (Gr F w.heap.size wr.heap.size) Ac cc A1 c1 Am cm { s with marks := ms, flows := cur }) (hr : ∀ a a', A1 = some a → Af = some a' → a'.block = a.block → a'.off + s.flows.length * 3 ≤ a.off + cur.length * 3) (ho : Sl k48 48 w3 base (Gr (Gr F w.heap.size wr.heap.size) wr.heap.size w3.heap.size) A2 c2 (cur ++ [x])) (hf : Fr (own A1) wr w3) (hold : Old k48 48 wr w3 A1 A2 cur.length) :
  RepI w (w3.setCell ⟨g, 2, none⟩ (.slice A2 (cur.length + 1) c2)) base g F Ac cc Af cf Am cm s ms (cur ++ [x]) := by
 have H1 := hx.xiS hf;have hs0 := h.fr.size;have hs1 := hf.size
 have e2 : ∀ u, (w3.setCell ⟨g, 2, none⟩ u).heap.size = w3.heap.size := fun u => by simp
 have hfr : Fr F w w3 := h.fr.trans H1.2.2.2
 have hg : F g ∨ w.heap.size ≤ g := by
  rcases hx.hg with h1 | h1
  ·
   exact Or.inl h1
  ·
   exact Or.inr h1.1
 have hbd : ∀ k, Gr F w.heap.size w3.heap.size k → base ≤ k ∧ k < w3.heap.size := fun k hk => by
  rcases hk with hk | hk
  ·
   have := hx.hF k (Or.inl hk); omega
  ·
   have := h.bl; omega
 refine ⟨h.bl, hfr.set _ hg, ⟨A2, c2, ?_, fun a a' h1 h2 h3 => ?_⟩, (hold.2 _ _ _ _ _ h.old hr).set H1.1 (by decide) _ _, h.cl⟩
 ·
  rw [e2]
  have hgr : ∀ k, Gr (Gr F w.heap.size wr.heap.size) wr.heap.size w3.heap.size k → Gr F w.heap.size w3.heap.size k := Gr.flat hs0 hs1 hs0
  have hc' : ∀ k, own Ac k → ¬ Gr F w.heap.size w3.heap.size k := fun k hk hg => by
   rcases hg with h1 | h1
   ·
    exact hx.hc k hk (Or.inl h1)
   ·
    have := h.cl k hk; omega
  have hm : Sl (Kd.int .i64) 3 w3 base (Gr F w.heap.size w3.heap.size) Am cm ms := H1.2.2.1.mono (fun k hk _ => hgr k (Or.inl hk))
  have hfl : Sl k48 48 w3 base (Gr F w.heap.size w3.heap.size) A2 c2 (cur ++ [x]) := ho.mono (fun k hk _ => hgr k hk)
  have hgg : Gr F w.heap.size w3.heap.size g := by
   rcases hx.hg with h1 | h1
   ·
    exact Or.inl h1
   ·
    exact Or.inr ⟨h1.1, by omega⟩
  have h4 := Mx.put (s' := { s with marks := ms, flows := cur ++ [x] }) 2 (.slice A2 (cur.length + 1) c2) H1.1 (by simp) H1.2.1 hfl hm hgg hbd hc'
  exact h4
 ·
  rcases hold.1 with h4 | h4
  ·
   subst h4
   have := hr a a' h1 h2 h3
   rw [List.length_append, List.length_singleton]; omega
  ·
   have h5 := h4 a h1
   rcases h.old.row with ⟨h6, _⟩ | ⟨b, off, cur', inner, h6, h7, h8, h9, _⟩
   ·
    rw [h6] at h2; cases h2
   ·
    rw [h6] at h2; injection h2 with h2; subst h2
    have h10 := hx.hF b (Or.inl h7)
    simp only at h3
    omega
end
section
variable {w : World} {base g : Nat} {F : Nat → Prop} {Ac : Option Addr} {cc : Nat} {Af : Option Addr} {cf : Nat} {Am : Option Addr} {cm : Nat} {s : St}
theorem repeat_all (h : Mx w base g F Ac cc Af cf Am cm s) (ms : List Int) (m : Nat) (hms : s.marks = ms ++ [(m : Int)]) (hm : m ≤ s.flows.length) (hl : ms.length < 10000) (hfl : s.flows.length ≤ 4096) (o0 : Int) (o1 o2 : Nat) (o3 o4 o5 o6 : Int) (N : Nat) (o8 : Int) (hN : 1 ≤ N ∧ N ≤ 4096) (ho8 : 0 ≤ o8 ∧ o8 ≤ 100000) :
  Calls Tryz.prog 57 #[.pointer (some ⟨g, 0, none⟩), .agg #[.int .i64 o0, .float .f64 o1, .float .f64 o2, .int .i64 o3, .int .i64 o4, .int .i64 o5, .int .i64 o6, .int .i64 (N : Int), .int .i64 o8]] w fun e w' => e = .returned (.int .i64 (pushes o8 s.flows (pairs (s.flows.drop m) 1 N)).2) ∧ RepI w w' base g F Ac cc Af cf Am cm s ms (pushes o8 s.flows (pairs (s.flows.drop m) 1 N)).1 := by
 have HX := am h;have HM := am hms;have HLE := am hm;have HL := am hl;have HFL := am hfl;have HNN := am hN;have HO8 := am ho8;clear h hms hm hl hfl hN ho8
 go_enter Tryz.func57, Tryz.ntmps57
 go_wp2_with (first | ((with_reducible refine xaJ (N := 3) rfl ?_); refine bxv 3 #[.int .i64 o0, .float .f64 o1, .float .f64 o2, .int .i64 o3, .int .i64 o4, .int .i64 o5, .int .i64 o6, .int .i64 (N : Int), .int .i64 o8] 37 ?_; intro gb hg w1 hbox hb; have HX1 := am (HX.out.below hb); have HF1 := am ((Fr.refl F w).below hb); have BK := am hbox; have HG := am hg; clear hb hbox hg) | (go_at_call 78; go_loud ((with_reducible refine (xkT HX1.out ms m HM.out HLE.out HL.out).mono ?_); rintro e w2 ⟨A', rfl, hf, hx, hc⟩; have hgb : ¬ F gb := fun hk => (by have := (HX.out.hF _ hk).2; have := HG.out; omega); have HX2 := am hx; have HF2 := am (HF1.out.step hf); have HC := am hc; replace BK := am (hf.blk BK.out hgb); have HS2 := am hf.size; clear hf hx hc hgb; obtain ⟨_,_,_,_,_,_,_,_,_,_,_,_,_,_,_,_,_,_⟩ := blk9 BK)))
 have HI : xaA (RepI w w2 base g F Ac cc Af cf Am cm s ms s.flows) := ⟨HX.out.xbJ, HF2.out, ⟨Af, cf, HX2.out.mono (fun k hk => Or.inl hk) (gr_bd HX.out.hF HX.out.xbJ HF2.out.size) (HX.out.hc_gr _), fun a a' h1 h2 _ => by rw [h1] at h2; injection h2 with h2; subst h2; exact Nat.le_refl _⟩, HX2.out.f, HX.out.xbY⟩
 go_loopg [7] (N) (fun kq v7 w' => ∃ (k : Nat) (cur : List S48), 1 ≤ k ∧ k ≤ N ∧ kq + k = N + 1 ∧ v7 = .int .i64 k ∧ xaA (RepI w w' base g F Ac cc Af cf Am cm s ms cur) ∧ xaA (cur.length ≤ 4096) ∧ xaA (pushes o8 cur (pairs (s.flows.drop m) k N) = pushes o8 s.flows (pairs (s.flows.drop m) 1 N)) ∧ xaA (w'.heap[gb]? = some (.cells #[.int .i64 o0, .float .f64 o1, .float .f64 o2, .int .i64 o3, .int .i64 o4, .int .i64 o5, .int .i64 o6, .int .i64 (N : Int), .int .i64 o8] 37 (0, 0))))
 case atStart => exact ⟨1, s.flows, by omega, HNN.out.1, by omega, rfl, HI, HFL, ⟨rfl⟩, BK⟩
 case round =>
  obtain ⟨k, cur, hk1, hk2, hk, rfl, HI, HCL, HP, BK⟩ := hrel
  obtain ⟨q0, hq0⟩ : ∃ q, q = gk := ⟨_, rfl⟩
  rw [← hq0] at hk
  have HQ0 := am hq0;clear hq0
  obtain ⟨c0, c1, c2, c3, c4, c5, c6, c7, c8, z0, z1, z2, z3, z4, z5, z6, z7, z8⟩ := blk9 BK
  clear c0 c1 c2 c3 c4 c5 c6 z0 z1 z2 z3 z4 z5 z6
  by_cases hlt : k < N
  ·
   have t1 : decide (k < N) = true := decide_eq_true hlt
   by_cases hL : 0 < s.flows.length - m
   ·
    have t2 : decide (0 < s.flows.length - m) = true := decide_eq_true hL
    go_wp2_with fail
    go_loopg [30] (s.flows.length - m) (fun iq v30 w' => ∃ (i : Nat) (cur : List S48), i ≤ s.flows.length - m ∧ iq + i = s.flows.length - m ∧ v30 = .int .i64 i ∧ xaA (RepI w w' base g F Ac cc Af cf Am cm s ms cur) ∧ xaA (cur.length ≤ 4096) ∧ xaA (pushes o8 cur (((s.flows.drop m).drop i).map (fun f => ((k : Int), f)) ++ pairs (s.flows.drop m) (k + 1) N) = pushes o8 s.flows (pairs (s.flows.drop m) 1 N)) ∧ xaA (w'.heap[gb]? = some (.cells #[.int .i64 o0, .float .f64 o1, .float .f64 o2, .int .i64 o3, .int .i64 o4, .int .i64 o5, .int .i64 o6, .int .i64 (N : Int), .int .i64 o8] 37 (0, 0))))
    case atStart => exact ⟨0, cur, by omega, by omega, rfl, HI, HCL, ⟨by rw [List.drop_zero, ← xgN _ _ _ hlt]; exact HP.out⟩, BK⟩
    case round =>
     obtain ⟨i, cur, hi, hik, rfl, HI, HCL, HP, BK⟩ := hrel
     by_cases hil : i < s.flows.length - m
     ·
      have t3 : decide (i < s.flows.length - m) = true := decide_eq_true hil
      have hll : (s.flows.drop m).length = s.flows.length - m := List.length_drop
      have hc := HC.out _ _ HI.out.old
      obtain ⟨ad, e, h0, h1, h2⟩ := xhA (hc) (i : Int) (by omega) (by omega)
      subst e
      have hill : i < (s.flows.drop m).length := by omega
      rw [rd48 hill] at h0 h1 h2
      rw [Int.toNat_natCast] at h0 h1 h2
      have HT := am (List.drop_eq_getElem_cons hill)
      obtain ⟨x, hx⟩ : ∃ x, x = (s.flows.drop m)[i] := ⟨_, rfl⟩
      have HXX := am hx
      rw [← hx] at h0 h1 h2
      clear hx hc hll
      obtain ⟨A1, n1, hxm, hr⟩ := HI.out.mx
      obtain ⟨d0, d1, d2, d3, d4, d5, y0, y1, y2, y3, y4, y5⟩ := blk6 hxm.k
      have HXM := am hxm;have HR := am hr;clear hxm hr d0 d1 d2 d3 d4 d5 y0 y1 y2 y3 y4 y5 c7 c8 z7 z8
      have HXA := am (HXM.out.alloc (.cells #[.int .i64 x.f0, .float .f64 x.f1, .int .i64 x.f2] 48))
      have BKA := am (xaT BK.out (.cells #[.int .i64 x.f0, .float .f64 x.f1, .int .i64 x.f2] 48))
      have BFA : xaA ((wr.alloc (.cells #[.int .i64 x.f0, .float .f64 x.f1, .int .i64 x.f2] 48)).heap[wr.heap.size]? = some (.cells #[.int .i64 x.f0, .float .f64 x.f1, .int .i64 x.f2] 48)) := ⟨xbF _ _⟩
      obtain ⟨d0, d1, d2, d3, d4, d5, y0, y1, y2, y3, y4, y5⟩ := blk6 HXA.out.k
      clear d0 d1 d3 d4 d5 y0 y1 y3 y4 y5
      obtain ⟨c0, c1, c2, c3, c4, c5, c6, c7, c8, z0, z1, z2, z3, z4, z5, z6, z7, z8⟩ := blk9 BKA
      clear c0 c1 c2 c3 c4 c5 c6 c7 z0 z1 z2 z3 z4 z5 z6 z7
      obtain ⟨f0, f1, f2, x0, x1, x2⟩ := blk3 BFA
      clear f1 f2 x1 x2
      by_cases hf : cur.length = 4096
      ·
       have t4 : ((cur.length : Int) == 4096) = true := by rw [hf]; rfl
       have HFF := am hf;clear hf
       go_wp2_with fail
       go_ret
       have e1 : pushes o8 s.flows (pairs (s.flows.drop m) 1 N) = (cur, 81) := by
        rw [← HP.out, HT.out, List.map_cons, List.cons_append, pushes, if_pos HFF.out]
       rw [e1]
       exact ⟨rfl, HI.out.below (xaH (Below.refl _ _) _)⟩
      ·
       have t4 : ((cur.length : Int) == 4096) = false := by rw [beq_eq_false_iff_ne]; omega
       have HNF := am hf;clear hf
       have hm0 : 0 ≤ (k : Int) * o8 := Int.mul_nonneg (by omega) HO8.out.1
       have hm1 : (k : Int) * o8 ≤ 409600000 := by
        have h1 := Int.mul_le_mul (show (k : Int) ≤ 4096 by have := HNN.out; omega) HO8.out.2 HO8.out.1 (by omega)
        omega
       obtain ⟨⟨dd, ee⟩, hde⟩ : ∃ p, p = mon x.f0 ((k : Int) * o8) := ⟨_, rfl⟩
       have hmc := xlG x.f0 ((k : Int) * o8) (wr.alloc (.cells #[.int .i64 x.f0, .float .f64 x.f1, .int .i64 x.f2] 48))
       rw [← hde] at hmc
       have HDE := am hde;have HMC := am hmc;clear hde hmc
       by_cases he : ee = 0
       ·
        subst he
        go_wp2_with (go_at_call 79; (with_reducible refine HMC.out.mono ?_); rintro e w' ⟨rfl, nk, rfl⟩)
        have HI2 := am (HI.out.below (xaG (xaH (Below.refl wr.heap.size wr) (.cells #[.int .i64 x.f0, .float .f64 x.f1, .int .i64 x.f2] 48)) nk))
        have HXM2 := am (HXA.out.drewN nk)
        have BK2 := am (xaZ BKA.out nk)
        have BF2 := am (xaZ BFA.out nk)
        have HNE : xaA (¬ own A1 wr.heap.size ∧ ¬ own A1 gb) := ⟨fun h => by have := (HXM.out.hF _ (HXM.out.f.own_F _ h)).2; omega, HXM.out.f.xeK BK.out (by decide)⟩
        clear BKA BFA HXA d2 y2 c8 z8 f0 x0
        obtain ⟨fb, hfb⟩ : ∃ fb, fb = wr.heap.size := ⟨_, rfl⟩
        rw [← hfb] at HNE BF2 ⊢
        have HSZ : xaA (wr.heap.size ≤ ((wr.alloc (.cells #[.int .i64 x.f0, .float .f64 x.f1, .int .i64 x.f2] 48)).drewN nk).heap.size) := ⟨by simp⟩
        have HB3 := am (xaK (xaG (xaH (Below.refl wr.heap.size wr) (.cells #[.int .i64 x.f0, .float .f64 x.f1, .int .i64 x.f2] 48)) nk))
        replace HI2 := am (HI2.out.below (xaK (Below.refl _ _)))
        replace HXM2 := am (HXM2.out.drew.up HB3.out.size HI.out.bl HI.out.cl)
        replace BK2 := am (xaP BK2.out)
        replace BF2 := am (xaP BF2.out)
        refine xbL (n := 16) (S := fun w' => w'.cell? ⟨g, 2, none⟩ = some (.slice A1 cur.length n1) ∧ w'.cell? ⟨fb, 1, none⟩ = some (.float .f64 x.f1) ∧ w'.cell? ⟨fb, 2, none⟩ = some (.int .i64 x.f2)) (ds := [15]) #[false, false, false, false, false, false, false, false, false, false, false, false, false, false, false, false] (by kernel_rfl) rfl rfl ⟨(xaB HXM2.out.k 2).trans rfl, (xaB BF2.out 1).trans rfl, (xaB BF2.out 2).trans rfl⟩ (fun hHeld => ?_)
        generalize hw3 : ((wr.alloc (.cells #[.int .i64 x.f0, .float .f64 x.f1, .int .i64 x.f2] 48)).drewN nk).drew = w3 at *
        clear hw3 hfb
        refine rP 0 ?_
        refine rP 1 ?_
        refine rP 2 ?_
        refine rP 3 ?_
        refine rP 5 ?_
        refine rP 6 ?_
        refine rP 8 ?_
        refine rT 4 ?_
        refine rT 7 ?_
        refine rT 9 ?_
        refine rP 10 ?_
        refine rO 11 (fun K hK => ?_)
        refine xbP (w1 := ?_) (v := ?_) (by rfl) rfl ?_ ?_
        rotate_left 2
        ·
         go_simp
         constructor
         ·
          rfl
         ·
          rfl
        have hA := (HXM2.out.alloc (.cells #[.int .i64 dd, .float .f64 x.f1, .int .i64 x.f2] 48)).up (xaH (Below.refl _ _) _).size HI.out.bl HI.out.cl
        have hAI := HI2.out.below (xaH (Below.refl _ _) (.cells #[.int .i64 dd, .float .f64 x.f1, .int .i64 x.f2] 48))
        refine hK.out _ _ ⟨(xaB hA.k 2).trans rfl, (xaB (xaT BF2.out _) 1).trans rfl, (xaB (xaT BF2.out _) 2).trans rfl⟩ (fun hHeld => ?_)
        clear hK K
        refine rN ?_
        refine rO 12 (fun K hK => ?_)
        refine Sl.xfA (by rfl) (.tmp 57) (.tmp 64) 24 (.agg #[.int .i64 0, .float .f64 0, .int .i64 0]) 24 rfl Tryz.underlying24 xeA rfl (by decide) (by omega) (ys := [(⟨dd, x.f1, x.f2⟩ : S48)]) rfl rfl hA.f (lit_C (k48_mk w3 (⟨dd, x.f1, x.f2⟩ : S48))) hA.xbJ (by have := HCL.out; show (cur.length + 1) * 24 ≤ _; omega) ?_
        intro A2 n2 w5 ho hf hold
        have H1 := am (hA.xiS hf)
        have hgb : ¬ own A1 gb := HNE.out.2
        have BK5 := am (hf.blk (xaT BK2.out _) hgb)
        have BF5 := am (hf.blk (xaT BF2.out _) HNE.out.1)
        have HP5 := am (hAI.push hA HR.out ho hf hold)
        clear ho hf hgb hHeld hold hA hAI
        refine hK.out _ _ ⟨(xaB H1.out.1 2).trans rfl, (xaB BF5.out 1).trans rfl, (xaB BF5.out 2).trans rfl⟩ (fun hHeld => ?_)
        clear hK K hHeld
        refine rN ?_
        refine rP 13 ?_
        refine rP 14 ?_
        obtain ⟨c0, c1, c2, c3, c4, c5, z0, z1, z2, z3, z4, z5⟩ := blk6 H1.out.1
        refine rL 15 (fun K hK => ?_)
        refine skip_ (w1 := ?_) (by rfl) rfl ?_ ?_
        rotate_left
        ·
         go_simp
         rfl
        refine hK.out _ _ ?_
        clear hK K
        refine rD ?_
        clear c0 c1 c2 c3 c4 c5 z0 z1 z2 z3 z4 z5
        have hmx : (i : Int) + 1 ≤ 9223372036854775807 := by have := HFL.out; omega
        go_wp2_with fail
        go_roundg (gk - 1)
        case measure => omega
        case rel =>
         have e1 : gb ≠ g := fun e => by
          have h1 := H1.out.1
          rw [← e, BK5.out] at h1; injection h1 with h1; injection h1 with _ h1; cases h1
         refine ⟨i + 1, cur ++ [⟨dd, x.f1, x.f2⟩], by omega, by omega, by go_num, HP5, ⟨by have h1 := HCL.out; have h2 := HNF.out; rw [List.length_append, List.length_singleton]; omega⟩, ⟨?_⟩, ⟨(Below.heap_setCell _ _ _ _ e1).trans BK5.out⟩⟩
         rw [← HP.out, HT.out, List.map_cons, List.cons_append, pushes, if_neg HNF.out]
         simp only [← HXX.out, ← HDE.out, if_pos]
       ·
        have t5 : (ee == 0) = false := by rw [beq_eq_false_iff_ne]; exact he
        have t6 : (ee != 0) = true := by rw [bne, t5]; rfl
        have HEE := am he;clear he
        go_wp2_with (go_at_call 79; (with_reducible refine HMC.out.mono ?_); rintro e w' ⟨rfl, nk, rfl⟩)
        go_ret
        have e1 : pushes o8 s.flows (pairs (s.flows.drop m) 1 N) = (cur, ee) := by
         rw [← HP.out, HT.out, List.map_cons, List.cons_append, pushes, if_neg HNF.out]
         simp only [← HXX.out, ← HDE.out, if_neg HEE.out]
        rw [e1]
        exact ⟨rfl, HI.out.below (xaG (xaH (Below.refl _ _) _) _)⟩
     ·
      have t3 : decide (i < s.flows.length - m) = false := decide_eq_false hil
      have hmx : (k : Int) + 1 ≤ 9223372036854775807 := by have := HNN.out; omega
      go_wp2_with fail
      rw [← HQ0.out]
      go_roundg (q0 - 1)
      case measure => omega
      case rel => exact ⟨k + 1, cur, by omega, by omega, by omega, by go_num, HI, HCL, ⟨by have h_ := HP.out; rw [show (s.flows.drop m).drop i = [] from List.drop_eq_nil_of_le (by rw [List.length_drop]; omega)] at h_; exact h_⟩, BK⟩
   ·
    have t2 : decide (0 < s.flows.length - m) = false := decide_eq_false hL
    go_wp2_with fail
    go_ret
    have h0 : s.flows.drop m = [] := List.drop_eq_nil_of_le (by omega)
    rw [h0] at HP
    rw [h0, ← HP.out, pairs_nil]
    exact ⟨rfl, HI.out⟩
  ·
   have t1 : decide (k < N) = false := decide_eq_false hlt
   go_wp2_with fail
   go_ret
   rw [← HP.out, xhV _ _ _ (by omega)]
   exact ⟨rfl, HI.out⟩
end
def lastM (ms : List Int) : Nat := (ms.getLast?.getD 0).toNat
def adds (acc : List S48) : List S48 → List S48 × Int
  | [] => (acc, 0)
  | f :: r => if acc.length = 4096 then (acc, 81) else adds (acc ++ [f]) r
def act (fx : List S48 × Int) (o : S37) (fl : List S48) (ms : List Int) : List S48 × List Int × Int :=
 if o.f0 = 1 then (fl, ms ++ [(fl.length : Int)], 0)
 else if o.f0 = 2 then (if fl.length = 4096 then (fl, ms, 81) else (fl ++ [⟨o.f3, o.f1, o.f5⟩], ms, 0))
 else if o.f0 = 3 then (if fx.2 = 0 then ((adds fl fx.1).1, ms, (adds fl fx.1).2) else (fl, ms, fx.2))
 else if o.f0 = 4 then (fl.take (lastM ms) ++ (fl.drop (lastM ms)).map ngF, ms.dropLast, 0)
 else if o.f0 = 5 then (if (fl.drop (lastM ms)).all (fun f => numB (mulN o.f1 f.f1)) = true then (fl.take (lastM ms) ++ (fl.drop (lastM ms)).map (scF o.f1), ms.dropLast, 0) else (fl, ms.dropLast, 91))
 else if o.f0 = 6 then (fl.take (lastM ms) ++ (fl.drop (lastM ms)).filter (inW o.f3 o.f4), ms.dropLast, 0)
 else ((pushes o.f8 fl (pairs (fl.drop (lastM ms)) 1 o.f7.toNat)).1, ms.dropLast, (pushes o.f8 fl (pairs (fl.drop (lastM ms)) 1 o.f7.toNat)).2)
def doOp (fx : List S48 × Int) (o : S37) (fl : List S48) (ms : List Int) : List S48 × List Int × Int :=
  if (act fx o fl ms).2.2 = 0 then act fx o fl ms else (fl, ms, (act fx o fl ms).2.2)
structure OkS (fl : List S48) (ms : List Int) : Prop where
 len : fl.length ≤ 4096
 num : ∀ f ∈ fl, numB f.f1 = true
 bd : ∀ m ∈ ms, 0 ≤ m ∧ m ≤ (fl.length : Int)
 up : ms.Pairwise (· ≤ ·)
structure OkO (fx : List S48 × Int) (o : S37) : Prop where
 kind : 1 ≤ o.f0 ∧ o.f0 ≤ 7
 x : o.f0 = 2 ∨ o.f0 = 5 → numB o.f1 = true
 rep : o.f0 = 7 → 1 ≤ o.f7 ∧ o.f7 ≤ 4096 ∧ 0 ≤ o.f8 ∧ o.f8 ≤ 1200
 fx : ∀ f ∈ fx.1, numB f.f1 = true
theorem xcV {ms : List Int} (h : ms ≠ []) (hp : ∀ m ∈ ms, 0 ≤ m) : ms = ms.dropLast ++ [(lastM ms : Int)] := by
 have h1 := (List.dropLast_concat_getLast h)
 have h2 := hp _ (List.getLast_mem h)
 have h3 : lastM ms = (ms.getLast h).toNat := by unfold lastM; rw [List.getLast?_eq_some_getLast h]; rfl
 rw [h3, show ((ms.getLast h).toNat : Int) = ms.getLast h by omega]
 exact h1.symm
theorem OkS.last {fl : List S48} {ms : List Int} (h : OkS fl ms) (hne : ms ≠ []) : lastM ms ≤ fl.length := by
 have h1 := xcV hne (fun m hm => (h.bd m hm).1)
 have h2 := (h.bd (lastM ms : Int) (by rw [h1]; simp [lastM])).2
 omega
theorem adds_ok : ∀ (r acc : List S48), acc.length ≤ 4096 → (∀ f ∈ acc, numB f.f1 = true) → (∀ f ∈ r, numB f.f1 = true) → (adds acc r).1.length ≤ 4096 ∧ acc.length ≤ (adds acc r).1.length ∧ ∀ f ∈ (adds acc r).1, numB f.f1 = true
 | [], acc, h, h1, h2 => ⟨h, Nat.le_refl _, h1⟩
 | f :: r, acc, h, h1, h2 => by
  unfold adds
  by_cases hl : acc.length = 4096
  ·
   rw [if_pos hl]; exact ⟨h, Nat.le_refl _, h1⟩
  ·
   rw [if_neg hl]
   have h3 := adds_ok r (acc ++ [f]) (by rw [List.length_append, List.length_singleton]; omega) (fun g hg => by
    rcases List.mem_append.1 hg with h4 | h4
    ·
     exact h1 g h4
    ·
     rw [List.mem_singleton] at h4; subst h4; exact h2 _ (List.mem_cons_self ..)) (fun g hg => h2 g (List.mem_cons_of_mem _ hg))
   rw [List.length_append, List.length_singleton] at h3
   exact ⟨h3.1, by omega, h3.2.2⟩
theorem xlE (mo : Int) : ∀ (r : List (Int × S48)) (acc : List S48), acc.length ≤ 4096 → (∀ f ∈ acc, numB f.f1 = true) → (∀ p ∈ r, numB p.2.f1 = true) → (pushes mo acc r).1.length ≤ 4096 ∧ acc.length ≤ (pushes mo acc r).1.length ∧ ∀ f ∈ (pushes mo acc r).1, numB f.f1 = true
 | [], acc, h, h1, h2 => ⟨h, Nat.le_refl _, h1⟩
 | p :: r, acc, h, h1, h2 => by
  unfold pushes
  by_cases hl : acc.length = 4096
  ·
   rw [if_pos hl]; exact ⟨h, Nat.le_refl _, h1⟩
  ·
   rw [if_neg hl]
   by_cases hm : (mon p.2.f0 (p.1 * mo)).2 = 0
   ·
    rw [if_pos hm]
    have h3 := xlE mo r (acc ++ [⟨(mon p.2.f0 (p.1 * mo)).1, p.2.f1, p.2.f2⟩]) (by rw [List.length_append, List.length_singleton]; omega) (fun g hg => by
     rcases List.mem_append.1 hg with h4 | h4
     ·
      exact h1 g h4
     ·
      rw [List.mem_singleton] at h4; subst h4; exact h2 _ (List.mem_cons_self ..)) (fun g hg => h2 g (List.mem_cons_of_mem _ hg))
    rw [List.length_append, List.length_singleton] at h3
    exact ⟨h3.1, by omega, h3.2.2⟩
   ·
    rw [if_neg hm]; exact ⟨h, Nat.le_refl _, h1⟩
theorem pairs_mem {l : List S48} {k n : Nat} {p : Int × S48} (h : p ∈ pairs l k n) : p.2 ∈ l := by
 unfold pairs at h
 obtain ⟨j, _, h1⟩ := List.mem_flatMap.1 h
 obtain ⟨f, hf, rfl⟩ := List.mem_map.1 h1
 exact hf
theorem neg_num {x : Nat} (h : numB x = true) : numB (Op.negFloat .f64 x) = true := by
 unfold numB at h ⊢
 have e : (Op.negFloat .f64 x) % 9223372036854775808 = x % 9223372036854775808 := by
  show (x ^^^ 9223372036854775808) % 2 ^ 63 = x % 2 ^ 63
  rw [Nat.xor_mod_two_pow]
  exact Nat.xor_zero _
 rw [e]; exact h
theorem xhL {ms : List Int} (h : ms.Pairwise (· ≤ ·)) : ms.dropLast.Pairwise (· ≤ ·) := h.sublist (List.dropLast_sublist ms)
theorem le_last {ms : List Int} (hne : ms ≠ []) (hp : ∀ m ∈ ms, 0 ≤ m) (h : ms.Pairwise (· ≤ ·)) : ∀ m ∈ ms.dropLast, m ≤ (lastM ms : Int) := fun m hm => by
 have h1 := xcV hne hp
 rw [h1] at h
 exact (List.pairwise_append.1 h).2.2 m hm _ (List.mem_singleton_self _)
theorem OkS.turn {fl r : List S48} {ms : List Int} (h : OkS fl ms) (hne : ms ≠ []) (hl : r.length ≤ fl.length - lastM ms) (hn : ∀ f ∈ r, numB f.f1 = true) : OkS (fl.take (lastM ms) ++ r) ms.dropLast := by
 have h1 := h.last hne
 have hp : ∀ m ∈ ms, 0 ≤ m := fun m hm => (h.bd m hm).1
 refine ⟨?_, fun f hf => ?_, fun m hm => ⟨hp m ((List.dropLast_sublist ms).mem hm), ?_⟩, xhL h.up⟩
 ·
  have := h.len; rw [List.length_append, List.length_take]; omega
 ·
  rcases List.mem_append.1 hf with h2 | h2
  ·
   exact h.num f (List.mem_of_mem_take h2)
  ·
   exact hn f h2
 ·
  have := le_last hne hp h.up m hm
  rw [List.length_append, List.length_take]; omega
theorem OkS.more {fl fl' : List S48} {ms : List Int} (h : OkS fl ms) (hl : fl.length ≤ fl'.length) (h4 : fl'.length ≤ 4096) (hn : ∀ f ∈ fl', numB f.f1 = true) : OkS fl' ms :=
  ⟨h4, hn, fun m hm => ⟨(h.bd m hm).1, by have := (h.bd m hm).2; omega⟩, h.up⟩
theorem OkS.drop {fl : List S48} {ms : List Int} (h : OkS fl ms) : OkS fl ms.dropLast :=
  ⟨h.len, h.num, fun m hm => h.bd m ((List.dropLast_sublist ms).mem hm), xhL h.up⟩
theorem do_ok {fx : List S48 × Int} {o : S37} {fl : List S48} {ms : List Int} (h : OkS fl ms) (ho : OkO fx o) (hne : 4 ≤ o.f0 → ms ≠ []) : OkS (doOp fx o fl ms).1 (doOp fx o fl ms).2.1 := by
 unfold doOp
 by_cases he : (act fx o fl ms).2.2 = 0
 ·
  rw [if_pos he]
  have hk := ho.kind
  unfold act at he ⊢
  by_cases h1 : o.f0 = 1
  ·
   rw [if_pos h1]
   refine ⟨h.len, h.num, fun m hm => ?_, ?_⟩
   ·
    rcases List.mem_append.1 hm with h2 | h2
    ·
     exact h.bd m h2
    ·
     rw [List.mem_singleton] at h2; subst h2; exact ⟨by omega, Int.le_refl _⟩
   ·
    refine List.pairwise_append.2 ⟨h.up, List.pairwise_singleton _ _, fun a ha b hb => ?_⟩
    rw [List.mem_singleton] at hb; subst hb; exact (h.bd a ha).2
  rw [if_neg h1] at he ⊢
  by_cases h2 : o.f0 = 2
  ·
   rw [if_pos h2] at he ⊢
   by_cases h3 : fl.length = 4096
   ·
    rw [if_pos h3] at he; cases he
   ·
    rw [if_neg h3]
    refine h.more (by simp) (by have := h.len; simp; omega) (fun f hf => ?_)
    rcases List.mem_append.1 hf with h4 | h4
    ·
     exact h.num f h4
    ·
     rw [List.mem_singleton] at h4; subst h4; exact ho.x (Or.inl h2)
  rw [if_neg h2] at he ⊢
  by_cases h3 : o.f0 = 3
  ·
   rw [if_pos h3] at he ⊢
   by_cases h4 : fx.2 = 0
   ·
    rw [if_pos h4]
    obtain ⟨h5, h6, h7⟩ := adds_ok fx.1 fl h.len h.num ho.fx
    exact h.more h6 h5 h7
   ·
    rw [if_neg h4] at he; exact absurd he h4
  rw [if_neg h3] at he ⊢
  have hne := hne (by omega)
  have hd : ∀ f ∈ fl.drop (lastM ms), numB f.f1 = true := fun f hf => h.num f (List.mem_of_mem_drop hf)
  by_cases h4 : o.f0 = 4
  ·
   rw [if_pos h4]
   refine h.turn hne (by simp) (fun f hf => ?_)
   obtain ⟨g, hg, rfl⟩ := List.mem_map.1 hf
   exact neg_num (hd g hg)
  rw [if_neg h4] at he ⊢
  by_cases h5 : o.f0 = 5
  ·
   rw [if_pos h5] at he ⊢
   by_cases h6 : (fl.drop (lastM ms)).all (fun f => numB (mulN o.f1 f.f1)) = true
   ·
    rw [if_pos h6]
    refine h.turn hne (by simp) (fun f hf => ?_)
    obtain ⟨g, hg, rfl⟩ := List.mem_map.1 hf
    exact List.all_eq_true.1 h6 g hg
   ·
    rw [if_neg h6] at he; cases he
  rw [if_neg h5] at he ⊢
  by_cases h6 : o.f0 = 6
  ·
   rw [if_pos h6]
   refine h.turn hne (by have := List.length_filter_le (inW o.f3 o.f4) (fl.drop (lastM ms)); rw [List.length_drop] at this; exact this) (fun f hf => hd f (List.mem_filter.1 hf).1)
  rw [if_neg h6] at he ⊢
  obtain ⟨h7, h8, h9⟩ := xlE o.f8 (pairs (fl.drop (lastM ms)) 1 o.f7.toNat) fl h.len h.num (fun p hp => hd _ (pairs_mem hp))
  exact h.drop.more h8 h7 h9
 ·
  rw [if_neg he]; exact h
structure Left (w w' : World) (base g : Nat) (F : Nat → Prop) (Ac : Option Addr) (cc : Nat) (Af : Option Addr) (cf : Nat) (s : St) (r : List S48 × List Int × Int) : Prop where
 fr : Fr F w w'
 mx : ∃ A1 c1 A2 c2, Mx w' base g (Gr F w.heap.size w'.heap.size) Ac cc A1 c1 A2 c2 { s with flows := r.1, marks := r.2.1 }
 old : r.2.2 ≠ 0 → Sl k48 48 w' base F Af cf s.flows
def WayC (fn : FuncId) (o : S37) (base g : Nat) (Ac : Option Addr) (cc : Nat) (s : St) (r : List S48 × List Int × Int) : Prop :=
 ∀ (w : World) (F : Nat → Prop) (Af : Option Addr) (cf : Nat) (Am : Option Addr) (cm : Nat), Mx w base g F Ac cc Af cf Am cm s →
  Calls Tryz.prog fn #[.pointer (some ⟨g, 0, none⟩), .agg #[.int .i64 o.f0, .float .f64 o.f1, .float .f64 o.f2, .int .i64 o.f3, .int .i64 o.f4, .int .i64 o.f5, .int .i64 o.f6, .int .i64 o.f7, .int .i64 o.f8]] w
   fun e w' => e = .returned (.int .i64 r.2.2) ∧ Left w w' base g F Ac cc Af cf s r
section
variable {base g : Nat} {Ac : Option Addr} {cc : Nat} {s : St} {fx : List S48 × Int} {o : S37}
theorem way1 (h : OkS s.flows s.marks) (hk : o.f0 = 1) (hl : s.marks.length < 10000) : WayC 51 o base g Ac cc s (act fx o s.flows s.marks) := by
 intro w F Af cf Am cm hx
 unfold act; rw [if_pos hk]
 refine (mark_ok hx hl _ _ _ _ _ _ _ _ _).mono ?_
 rintro e w' ⟨rfl, hf, A2, c2, h2⟩
 exact ⟨rfl, hf, ⟨_, _, _, _, h2⟩, fun h => absurd rfl h⟩
theorem way2 (h : OkS s.flows s.marks) (hk : o.f0 = 2) : WayC 52 o base g Ac cc s (act fx o s.flows s.marks) := by
 intro w F Af cf Am cm hx
 unfold act; rw [if_neg (by omega), if_pos hk]
 by_cases hl : s.flows.length = 4096
 ·
  rw [if_pos hl]
  refine (pay_full hx hl _ _ _ _ _ _ _ _ _).mono ?_
  rintro e w' ⟨rfl, hb⟩
  exact ⟨rfl, (Fr.refl F w).below hb, ⟨_, _, _, _, (hx.below hb).mono (fun k hk => Or.inl hk) (gr_bd hx.hF hx.xbJ hb.size) (hx.hc_gr _)⟩, fun _ => (hx.below hb).f⟩
 ·
  rw [if_neg hl]
  refine (pay_ok hx (by have := h.len; omega) _ _ _ _ _ _ _ _ _).mono ?_
  rintro e w' ⟨rfl, hf, A1, c1, h2⟩
  exact ⟨rfl, hf, ⟨_, _, _, _, h2⟩, fun h => absurd rfl h⟩
theorem way4 (h : OkS s.flows s.marks) (hk : o.f0 = 4) (hne : s.marks ≠ []) (hl : s.marks.length < 10000) : WayC 54 o base g Ac cc s (act fx o s.flows s.marks) := by
 intro w F Af cf Am cm hx
 unfold act; rw [if_neg (by omega), if_neg (by omega), if_neg (by omega), if_pos hk]
 refine (give_ok hx s.marks.dropLast (lastM s.marks) (xcV hne (fun m hm => (h.bd m hm).1)) (h.last hne) (by rw [List.length_dropLast]; omega) h.len _ _ _ _ _ _ _ _ _).mono ?_
 rintro e w' ⟨rfl, hf, A1, c1, h2⟩
 exact ⟨rfl, hf, ⟨_, _, _, _, h2⟩, fun h => absurd rfl h⟩
theorem way5 (h : OkS s.flows s.marks) (hk : o.f0 = 5) (hx1 : numB o.f1 = true) (hne : s.marks ≠ []) (hl : s.marks.length < 10000) : WayC 55 o base g Ac cc s (act fx o s.flows s.marks) := by
 intro w F Af cf Am cm hx
 unfold act; rw [if_neg (by omega), if_neg (by omega), if_neg (by omega), if_neg (by omega), if_pos hk]
 have hd : ∀ f ∈ s.flows.drop (lastM s.marks), numB f.f1 = true := fun f hf => h.num f (List.mem_of_mem_drop hf)
 by_cases h6 : (s.flows.drop (lastM s.marks)).all (fun f => numB (mulN o.f1 f.f1)) = true
 ·
  rw [if_pos h6]
  refine (scale_ok hx s.marks.dropLast (lastM s.marks) (xcV hne (fun m hm => (h.bd m hm).1)) (h.last hne) (by rw [List.length_dropLast]; omega) h.len _ _ _ _ _ _ _ _ _ hx1 hd (fun f hf => List.all_eq_true.1 h6 f hf)).mono ?_
  rintro e w' ⟨rfl, hf, A1, c1, h2⟩
  exact ⟨rfl, hf, ⟨_, _, _, _, h2⟩, fun h => absurd rfl h⟩
 ·
  rw [if_neg h6]
  have h7 : ∃ f ∈ s.flows.drop (lastM s.marks), numB (mulN o.f1 f.f1) = false := by
   rw [List.all_eq_true] at h6
   simpa using h6
  refine (scale_bad hx s.marks.dropLast (lastM s.marks) (xcV hne (fun m hm => (h.bd m hm).1)) (h.last hne) (by rw [List.length_dropLast]; omega) h.len _ _ _ _ _ _ _ _ _ hx1 hd h7).mono ?_
  rintro e w' ⟨rfl, hf, h2⟩
  exact ⟨rfl, hf, ⟨_, _, _, _, h2.mono (fun k hk => Or.inl hk) (gr_bd hx.hF hx.xbJ hf.size) (hx.hc_gr _)⟩, fun _ => h2.f⟩
theorem way6 (h : OkS s.flows s.marks) (hk : o.f0 = 6) (hne : s.marks ≠ []) (hl : s.marks.length < 10000) : WayC 56 o base g Ac cc s (act fx o s.flows s.marks) := by
 intro w F Af cf Am cm hx
 unfold act; rw [if_neg (by omega), if_neg (by omega), if_neg (by omega), if_neg (by omega), if_neg (by omega), if_pos hk]
 refine (window_ok hx s.marks.dropLast (lastM s.marks) (xcV hne (fun m hm => (h.bd m hm).1)) (h.last hne) (by rw [List.length_dropLast]; omega) h.len _ _ _ _ _ _ _ _ _).mono ?_
 rintro e w' ⟨rfl, hf, A1, c1, h2⟩
 exact ⟨rfl, hf, ⟨_, _, _, _, h2⟩, fun h => absurd rfl h⟩
theorem way7 (h : OkS s.flows s.marks) (hk : o.f0 = 7) (hr : 1 ≤ o.f7 ∧ o.f7 ≤ 4096 ∧ 0 ≤ o.f8 ∧ o.f8 ≤ 1200) (hne : s.marks ≠ []) (hl : s.marks.length < 10000) : WayC 57 o base g Ac cc s (act fx o s.flows s.marks) := by
 intro w F Af cf Am cm hx
 unfold act; rw [if_neg (by omega), if_neg (by omega), if_neg (by omega), if_neg (by omega), if_neg (by omega), if_neg (by omega)]
 obtain ⟨o0, o1, o2, o3, o4, o5, o6, o7, o8⟩ := o
 obtain ⟨N, rfl⟩ : ∃ N : Nat, o7 = (N : Int) := ⟨o7.toNat, by have := hr.1; simp only at this; omega⟩
 simp only [Int.toNat_natCast] at hr ⊢
 refine (repeat_all hx s.marks.dropLast (lastM s.marks) (xcV hne (fun m hm => (h.bd m hm).1)) (h.last hne) (by rw [List.length_dropLast]; omega) h.len _ _ _ _ _ _ _ N o8 (by omega) (by omega)).mono ?_
 rintro e w' ⟨rfl, hI⟩
 obtain ⟨A1, c1, h2, _⟩ := hI.mx
 exact ⟨rfl, hI.fr, ⟨_, _, _, _, h2⟩, fun _ => hI.old⟩
end
def FixC (o : S37) (fx : List S48 × Int) : Prop :=
  ∀ (w : World) (A : Option Addr), Kd.C k103 w A 1 [⟨3, 0, 0, o.f1, o.f2, o.f3, o.f4, o.f5, o.f6, o.f7, 0⟩] →
    Calls Tryz.prog 28 #[.slice A 1 1] w fun e w' => ∃ A' c', e = .returned (.tuple #[.slice A' fx.1.length c', .int .i64 fx.2]) ∧ Sl k48 48 w' w.heap.size (fun _ => True) A' c' fx.1 ∧ Below w.heap.size w w'
def fixR (fx : List S48 × Int) (fl : List S48) : List S48 × Int := if fx.2 = 0 then adds fl fx.1 else (fl, fx.2)
section
variable {w wr w1 : World} {base g : Nat} {F : Nat → Prop} {Ac : Option Addr} {cc : Nat} {Af : Option Addr} {cf : Nat} {Am : Option Addr} {cm : Nat} {s : St} {ms : List Int} {cur : List S48}
theorem RepI.step {A1 A2 : Option Addr} {c1 c2 : Nat} {w3 : World} {x : S48} (h : RepI w wr base g F Ac cc Af cf Am cm s ms cur) (hx : Mx wr base g (Gr F w.heap.size wr.heap.size) Ac cc A1 c1 Am cm { s with marks := ms, flows := cur }) (hr : ∀ a a', A1 = some a → Af = some a' → a'.block = a.block → a'.off + s.flows.length * 3 ≤ a.off + cur.length * 3)
  (hf : Fr (Gr F w.heap.size wr.heap.size) wr w3) (h3 : Mx w3 base g (Gr (Gr F w.heap.size wr.heap.size) wr.heap.size w3.heap.size) Ac cc A2 c2 Am cm { s with marks := ms, flows := cur ++ [x] }) (hold : Old k48 48 wr w3 A1 A2 cur.length) :
  RepI w w3 base g F Ac cc Af cf Am cm s ms (cur ++ [x]) := by
 have hs0 := h.fr.size;have hs1 := hf.size
 refine ⟨h.bl, h.fr.trans hf, ⟨A2, c2, h3.mono (Gr.flat hs0 hs1 hs0) (fun k hk => ?_) (fun k hk hg => ?_), fun a a' h1 h2 h3 => ?_⟩, hold.2 _ _ _ _ _ h.old hr, h.cl⟩
 ·
  rcases hk with hk | hk
  ·
   exact h3.hF k (Or.inl (Or.inl hk))
  ·
   have := h.bl; omega
 ·
  rcases hg with h1 | h1
  ·
   exact hx.hc k hk (Or.inl h1)
  ·
   have := h.cl k hk; omega
 ·
  rcases hold.1 with h4 | h4
  ·
   subst h4
   have := hr a a' h1 h2 h3
   rw [List.length_append, List.length_singleton]; omega
  ·
   have h5 := h4 a h1
   rcases h.old.row with ⟨h6, _⟩ | ⟨b, off, cur', inner, h6, h7, h8, h9, _⟩
   ·
    rw [h6] at h2; cases h2
   ·
    rw [h6] at h2; injection h2 with h2; subst h2
    have h10 := hx.hF b (Or.inl h7)
    simp only at h3
    omega
theorem RepI.lift {w2 : World} (h : RepI w2 wr base g F Ac cc Af cf Am cm s ms cur) (hf : Fr F w w2) (hx : Mx w base g F Ac cc Af cf Am cm s) : RepI w wr base g F Ac cc Af cf Am cm s ms cur := by
 obtain ⟨A1, c1, h1, hr⟩ := h.mx
 have hs := hf.size;have hs1 := h.fr.size
 refine ⟨hx.xbJ, hf.step h.fr, ⟨A1, c1, h1.mono (Gr.sub hs) (fun k hk => ?_) (fun k hk hg => ?_), hr⟩, h.old, hx.xbY⟩
 ·
  rcases hk with hk | hk
  ·
   exact h1.hF k (Or.inl hk)
  ·
   have := hx.xbJ; omega
 ·
  rcases hg with h2 | h2
  ·
   exact h1.hc k hk (Or.inl h2)
  ·
   have := hx.xbY k hk; omega
theorem Sl.apart {α : Type} {d : Kd α} {e : TypeId} [Flat d] {A : Option Addr} {c n0 n1 : Nat} {xs : List α} {G : Nat → Prop} (h : Sl d e w base (fun k => n0 ≤ k ∧ k < n1) A c xs) (hf : Fr G w w1) (hG : ∀ k, n0 ≤ k → k < n1 → ¬ G k) : Sl d e w1 base (fun k => n0 ≤ k ∧ k < n1) A c xs := h.fr hf (fun k hk => hG k hk.1 hk.2)
theorem Sl.new {α : Type} {d : Kd α} {e : TypeId} {n : Nat} {A : Option Addr} {c : Nat} {xs : List α} {F : Nat → Prop} (h : Sl d e w n F A c xs) : Sl d e w n (fun k => n ≤ k ∧ k < w.heap.size) A c xs :=
  ⟨h.le, h.lim, h.row.imp_right (fun ⟨b, off, cur, inner, h1, h2, h3, h4, h5⟩ => ⟨b, off, cur, inner, h1, ⟨h3, xaM h4⟩, h3, h4, h5⟩)⟩
end
section
variable {w : World} {base g : Nat} {F : Nat → Prop} {Ac : Option Addr} {cc : Nat} {Af : Option Addr} {cf : Nat} {Am : Option Addr} {cm : Nat} {s : St}
theorem fixed_ok (h : Mx w base g F Ac cc Af cf Am cm s) (hfl : s.flows.length ≤ 4096) (o0 : Int) (o1 o2 : Nat) (o3 o4 o5 o6 o7 o8 : Int) (fx : List S48 × Int) (hfx : FixC ⟨o0, o1, o2, o3, o4, o5, o6, o7, o8⟩ fx) (hfl : fx.1.length ≤ 100000) :
  Calls Tryz.prog 53 #[.pointer (some ⟨g, 0, none⟩), .agg #[.int .i64 o0, .float .f64 o1, .float .f64 o2, .int .i64 o3, .int .i64 o4, .int .i64 o5, .int .i64 o6, .int .i64 o7, .int .i64 o8]] w fun e w' => e = .returned (.int .i64 (fixR fx s.flows).2) ∧ RepI w w' base g F Ac cc Af cf Am cm s s.marks (fixR fx s.flows).1 := by
 have HX := am h
 unfold FixC at hfx
 simp only at hfx
 have HFX := am hfx;clear h hfx
 go_enter Tryz.func53, Tryz.ntmps53
 go_wp2_with (first | ((with_reducible refine xaJ (N := 3) rfl ?_); refine bxv 3 #[.int .i64 o0, .float .f64 o1, .float .f64 o2, .int .i64 o3, .int .i64 o4, .int .i64 o5, .int .i64 o6, .int .i64 o7, .int .i64 o8] 37 ?_; intro gb hg w1 hbox hb; have HX1 := am (HX.out.below hb); have HF1 := am ((Fr.refl F w).below hb); have BK := am hbox; have HG := am hg; clear hb hbox hg; obtain ⟨_,_,_,_,_,_,_,_,_,_,_,_,_,_,_,_,_,_⟩ := blk9 BK) | (go_at_call 28; go_loud ((with_reducible refine (HFX.out _ _ (lit_C (xiA w1 (⟨3, 0, 0, o1, o2, o3, o4, o5, o6, o7, 0⟩ : S103)))).mono ?_); rintro e w2 ⟨A', c', rfl, hc, hb⟩; have HC := am hc.new; have HX2 := am ((HX1.out.alloc _).below hb); have HF2 := am ((HF1.out.alloc _).below hb); clear hb hc)))
 have HFL := am hfl;clear hfl
 have HI : xaA (RepI w2 w2 base g F Ac cc Af cf Am cm s s.marks s.flows) := ⟨HX2.out.xbJ, Fr.refl _ _, ⟨Af, cf, HX2.out.mono (fun k hk => Or.inl hk) (gr_bd HX2.out.hF HX2.out.xbJ (Nat.le_refl _)) (HX2.out.hc_gr _), fun a a' h1 h2 _ => by rw [h1] at h2; injection h2 with h2; subst h2; exact Nat.le_refl _⟩, HX2.out.f, HX2.out.xbY⟩
 have HFL4 : xaA (s.flows.length ≤ 4096) := ⟨by assumption⟩
 obtain ⟨nA, hnA⟩ : ∃ n, n = (w1.alloc (.cells #[.int .i64 3, .int .i64 0, .int .i64 0, .float .f64 o1, .float .f64 o2, .int .i64 o3, .int .i64 o4, .int .i64 o5, .int .i64 o6, .int .i64 o7, .int .i64 0] 103)).heap.size := ⟨_, rfl⟩
 rw [← hnA] at HC
 have HNA : xaA (w.heap.size ≤ nA) := ⟨by rw [hnA]; exact Nat.le_trans HF1.out.size (by simp)⟩
 clear hnA
 go_loopg [6, 7] (fx.1.length) (fun kq v6 v7 w' => ∃ (i : Nat) (er : Int) (cur : List S48), i ≤ fx.1.length ∧ kq + i = fx.1.length ∧ v6 = .int .i64 er ∧ v7 = .int .i64 i ∧ xaA (RepI w2 w' base g F Ac cc Af cf Am cm s s.marks cur) ∧ xaA (cur.length ≤ 4096) ∧ xaA (Sl k48 48 w' nA (fun k => nA ≤ k ∧ k < w2.heap.size) A' c' fx.1) ∧ xaA (fixR fx s.flows = if er = 0 then adds cur (fx.1.drop i) else (cur, er)))
 case atStart => exact ⟨0, fx.2, s.flows, by omega, by omega, rfl, rfl, HI, HFL4, HC, ⟨by
  rw [List.drop_zero]; rfl⟩⟩
 case round =>
  obtain ⟨i, er, cur, hi, hik, rfl, rfl, HI, HCL, HC, HT⟩ := hrel
  by_cases hil : i < fx.1.length
  ·
   have t1 : decide (i < fx.1.length) = true := decide_eq_true hil
   by_cases he : er = 0
   ·
    subst he
    have t2 : ((0 : Int) == 0) = true := rfl
    obtain ⟨ad, e, h0, h1, h2⟩ := xhA HC.out.C (i : Int) (by omega) (by omega)
    subst e
    rw [rd48 hil] at h0 h1 h2
    rw [Int.toNat_natCast] at h0 h1 h2
    have HD := am (List.drop_eq_getElem_cons hil)
    obtain ⟨x, hx⟩ : ∃ x, x = fx.1[i] := ⟨_, rfl⟩
    have HXX := am hx
    rw [← hx] at h0 h1 h2
    clear hx
    have hmx : (i : Int) + 1 ≤ 9223372036854775807 := by have := HFL.out; omega
    obtain ⟨A1, n1, hxm, hr⟩ := HI.out.mx
    have HXM := am hxm;have HR := am hr;clear hxm hr
    by_cases hf : cur.length = 4096
    ·
     have HFF := am hf;clear hf
     go_wp2_with (go_at_call 77; go_loud ((with_reducible refine (add_full HXM.out HFF.out _ _ _).mono ?_); rintro e w' ⟨rfl, hb⟩; have HI2 := am (HI.out.below hb); have HC2 := am (HC.out.below hb); clear hb))
     go_roundg (gk - 1)
     case measure => omega
     case rel => exact ⟨i + 1, 81, cur, by omega, by omega, rfl, by go_num, HI2, HCL, HC2, ⟨by rw [HT.out, if_pos trivial, if_neg (by decide), HD.out, adds, if_pos HFF.out]⟩⟩
    ·
     have HFF := am (show cur.length < 4096 by have := HCL.out; omega)
     clear hf
     go_wp2_with (go_at_call 77; go_loud ((with_reducible refine (add_ok HXM.out HFF.out _ _ _).mono ?_); rintro e w' ⟨rfl, hf, A2, n2, h3, hold⟩; have HI2 := am (HI.out.step HXM.out HR.out hf h3 hold); have HC2 := am (HC.out.apart hf (fun k h1 h2 hg => by rcases hg with hg | hg; (· have := (HX.out.hF k hg).2; have := HNA.out; omega); (· omega))); clear hf h3 hold))
     go_roundg (gk - 1)
     case measure => omega
     case rel => exact ⟨i + 1, 0, cur ++ [⟨x.f0, x.f1, x.f2⟩], by omega, by omega, rfl, by go_num, HI2, ⟨by have := HFF.out; rw [List.length_append, List.length_singleton]; omega⟩, HC2, ⟨by rw [HT.out, if_pos trivial, if_pos rfl, HD.out, adds, if_neg (by have := HFF.out; omega), ← HXX.out]⟩⟩
   ·
    have t2 : (er == 0) = false := by rw [beq_eq_false_iff_ne]; exact he
    have HE := am he;clear he
    go_wp2_with fail
    go_ret
    have h1 := HT.out
    rw [if_neg HE.out] at h1
    have h4 := HI.out.lift HF2.out HX.out
    rw [h1]; exact ⟨rfl, h4⟩
  ·
   have t1 : decide (i < fx.1.length) = false := decide_eq_false hil
   go_wp2_with fail
   go_ret
   have h1 := HT.out
   have h2 : (if er = 0 then adds cur (fx.1.drop i) else (cur, er)) = (cur, er) := by
    split
    ·
     rename_i h3; rw [List.drop_eq_nil_of_le (by omega), h3]; rfl
    ·
     rfl
   rw [h2] at h1
   have h4 := HI.out.lift HF2.out HX.out
   rw [h1]; exact ⟨rfl, h4⟩
end
section
variable {base g : Nat} {Ac : Option Addr} {cc : Nat} {s : St} {fx : List S48 × Int} {o : S37}
theorem way3 (h : OkS s.flows s.marks) (hk : o.f0 = 3) (hfx : FixC o fx) (hfl : fx.1.length ≤ 100000) : WayC 53 o base g Ac cc s (act fx o s.flows s.marks) := by
 intro w F Af cf Am cm hx
 have e : act fx o s.flows s.marks = ((fixR fx s.flows).1, s.marks, (fixR fx s.flows).2) := by
  unfold act fixR
  rw [if_neg (by omega), if_neg (by omega), if_pos hk]
  split <;> rfl
 rw [e]
 refine (fixed_ok hx h.len _ _ _ _ _ _ _ _ _ fx hfx hfl).mono ?_
 rintro e w' ⟨rfl, hI⟩
 obtain ⟨A1, c1, h2, _⟩ := hI.mx
 exact ⟨rfl, hI.fr, ⟨_, _, _, _, h2⟩, fun _ => hI.old⟩
end
end Go.Proofs.YtkabcgmegljebaaGreatDoor.H
