/- Contracts and facts of functions of the program, joined in one text. -/
import Derived.Test.YtkabcgmegljebaaGreatDoorDGQ
import Derived.Test.YtkabcgmegljebaaGreatDoorDGP
import Derived.Test.YtkabcgmegljebaaGreatDoorDGH
set_option maxHeartbeats 8000000
set_option maxRecDepth 100000
set_option linter.unusedVariables false
set_option linter.unusedSimpArgs false
namespace Go.Proofs.YtkabcgmegljebaaGreatDoor.H
open Go.RowKit Go.Proofs.YtkabcgmegljebaaGreatDoorW.PrintWords Go.Proofs.YtkabcgmegljebaaGreatDoorW.PrintLast Go.Proofs.YtkabcgmegljebaaGreatDoorW.PrintMore
open Go.Proofs.YtkabcgmegljebaaGreatDoor.Q
def HasO (k : Int) : Prop := k = 2 ∨ k = 3 ∨ k = 4 ∨ k = 6 ∨ k = 7 ∨ k = 8
theorem ix_is {k : Int} (hk : HasO k) : ∀ i : Nat, i < 8 → rdI kindsL (i : Int) = k → (i : Int) = opIx k := by
 intro i hi
 have h : i = 0 ∨ i = 1 ∨ i = 2 ∨ i = 3 ∨ i = 4 ∨ i = 5 ∨ i = 6 ∨ i = 7 := by omega
 intro e
 rcases h with rfl | rfl | rfl | rfl | rfl | rfl | rfl | rfl <;> (subst e; first | rfl | (exact absurd hk (by unfold HasO; decide)))
theorem ix_ex {k : Int} (hk : HasO k) : ∃ i : Nat, i < 8 ∧ rdI kindsL (i : Int) = k := by
 rcases hk with rfl | rfl | rfl | rfl | rfl | rfl
 ·
  exact ⟨2, by decide, rfl⟩
 ·
  exact ⟨3, by decide, rfl⟩
 ·
  exact ⟨4, by decide, rfl⟩
 ·
  exact ⟨5, by decide, rfl⟩
 ·
  exact ⟨6, by decide, rfl⟩
 ·
  exact ⟨7, by decide, rfl⟩
theorem index_c (k : Int) (hk : HasO k) (a : Addr) (c : Nat) (w : World) (h : ∀ j, j < 8 → w.cell? (a.add j) = some (.int .i64 (rdI kindsL (j : Int)))) : Calls Tryz.prog 71 #[.slice (some a) 8 c, .int .i64 k] w fun e w' => e = .returned (.int .i64 (opIx k)) ∧ w' = w := by
 have HC := Aside0.mk h;have HK := Aside0.mk hk;clear h hk
 go_enter Tryz.func71, Tryz.ntmps71
 go_wp2_with fail
 go_loopg [8] 8 (fun kq v8 w' => ∃ i : Nat, kq + i = 8 ∧ v8 = .int .i64 (i : Int) ∧ Aside0 (∀ j, j < i → rdI kindsL (j : Int) ≠ k) ∧ w' = w)
 case atStart => exact ⟨0, by omega, rfl, ⟨fun j hj => absurd hj (Nat.not_lt_zero _)⟩, rfl⟩
 case round =>
  obtain ⟨i, hi, rfl, HN, rfl⟩ := hrel
  by_cases hlt : i < 8
  ·
   have hcell := HC.out i hlt
   have HIX := Aside0.mk (ix_is HK.out i hlt)
   generalize hv : rdI kindsL (i : Int) = v at hcell HIX
   have HV := Aside0.mk hv;clear hv
   by_cases he : v = k
   ·
    have t1 : (k == v) = true := beq_iff_eq.2 he.symm
    have HE := Aside0.mk he;clear he
    go_wp2_with fail
    go_ret
    exact ⟨by rw [← HIX.out HE.out]; rfl, rfl⟩
   ·
    have t1 : (k == v) = false := beq_eq_false_iff_ne.2 (fun q => he q.symm)
    have HE := Aside0.mk he;clear he
    go_wp2_with fail
    go_roundg (gk - 1)
    case measure => omega
    case rel => exact ⟨i + 1, by omega, by go_num, ⟨fun j hj => by
     by_cases hji : j = i
     ·
      rw [hji, HV.out]; exact HE.out
     ·
      exact HN.out j (by omega)⟩, rfl⟩
  ·
   exfalso
   obtain ⟨j, hj, hj2⟩ := ix_ex HK.out
   exact HN.out j (by omega) hj2
theorem op_c (x : S103) (hk0 : HasO x.f0) (w : World) (hk : KT w) : Calls Tryz.prog 46 #[.agg #[.int .i64 x.f0, .int .i64 x.f1, .int .i64 x.f2, .float .f64 x.f3, .float .f64 x.f4, .int .i64 x.f5, .int .i64 x.f6, .int .i64 x.f7, .int .i64 x.f8, .int .i64 x.f9, .int .i64 x.f10]] w fun e w' => e = .returned (.agg #[.int .i64 (opIx x.f0), .float .f64 x.f3, .float .f64 x.f4, .int .i64 x.f5, .int .i64 x.f6, .int .i64 x.f7, .int .i64 x.f8, .int .i64 x.f9, .int .i64 x.f10]) ∧ Below w.heap.size w w' := by
 obtain ⟨ka, kc, hkc, hkl, hke⟩ := hk
 have B1 := Aside0.mk (xaE (xbB w (.cells #[.int .i64 x.f0, .int .i64 x.f1, .int .i64 x.f2, .float .f64 x.f3, .float .f64 x.f4, .int .i64 x.f5, .int .i64 x.f6, .int .i64 x.f7, .int .i64 x.f8, .int .i64 x.f9, .int .i64 x.f10] 103)) (.cells #[.int .i64 0, .float .f64 0, .float .f64 0, .int .i64 0, .int .i64 0, .int .i64 0, .int .i64 0, .int .i64 0, .int .i64 0] 37))
 have B2 : Aside0 (((w.alloc (.cells #[.int .i64 x.f0, .int .i64 x.f1, .int .i64 x.f2, .float .f64 x.f3, .float .f64 x.f4, .int .i64 x.f5, .int .i64 x.f6, .int .i64 x.f7, .int .i64 x.f8, .int .i64 x.f9, .int .i64 x.f10] 103)).alloc (.cells #[.int .i64 0, .float .f64 0, .float .f64 0, .int .i64 0, .int .i64 0, .int .i64 0, .int .i64 0, .int .i64 0, .int .i64 0] 37)).heap[w.heap.size + 1]? = some (.cells #[.int .i64 0, .float .f64 0, .float .f64 0, .int .i64 0, .int .i64 0, .int .i64 0, .int .i64 0, .int .i64 0, .int .i64 0] 37)) := ⟨by have h3 := xbB (w.alloc (.cells #[.int .i64 x.f0, .int .i64 x.f1, .int .i64 x.f2, .float .f64 x.f3, .float .f64 x.f4, .int .i64 x.f5, .int .i64 x.f6, .int .i64 x.f7, .int .i64 x.f8, .int .i64 x.f9, .int .i64 x.f10] 103)) (.cells #[.int .i64 0, .float .f64 0, .float .f64 0, .int .i64 0, .int .i64 0, .int .i64 0, .int .i64 0, .int .i64 0, .int .i64 0] 37); rwa [World.size_alloc] at h3⟩
 have HB := Aside0.mk (xaC (xaC (Below.refl w.heap.size w) (.cells #[.int .i64 x.f0, .int .i64 x.f1, .int .i64 x.f2, .float .f64 x.f3, .float .f64 x.f4, .int .i64 x.f5, .int .i64 x.f6, .int .i64 x.f7, .int .i64 x.f8, .int .i64 x.f9, .int .i64 x.f10] 103)) (.cells #[.int .i64 0, .float .f64 0, .float .f64 0, .int .i64 0, .int .i64 0, .int .i64 0, .int .i64 0, .int .i64 0, .int .i64 0] 37))
 have HKC := Aside0.mk hkc;have HKL := Aside0.mk hkl;have HKE := Aside0.mk hke
 have HK0 := Aside0.mk (lt_of_cell hkc)
 have HAS := Aside0.mk hk0;clear hkc hke hkl hk0
 go_enter Tryz.func46, Tryz.ntmps46
 go_wp2_with fail
 obtain ⟨b1, hb1⟩ : ∃ b, b = w.heap.size := ⟨_, rfl⟩
 rw [← hb1] at B1 B2 ⊢
 have HB1 := Aside0.mk hb1;clear hb1
 generalize (w.alloc (.cells #[.int .i64 x.f0, .int .i64 x.f1, .int .i64 x.f2, .float .f64 x.f3, .float .f64 x.f4, .int .i64 x.f5, .int .i64 x.f6, .int .i64 x.f7, .int .i64 x.f8, .int .i64 x.f9, .int .i64 x.f10] 103)).alloc (.cells #[.int .i64 0, .float .f64 0, .float .f64 0, .int .i64 0, .int .i64 0, .int .i64 0, .int .i64 0, .int .i64 0, .int .i64 0] 37) = w1 at *
 refine xdP ?_
 refine start_ (n := 22) (S := fun w' => w'.cell? ⟨0, 0, none⟩ = some (.slice (some ka) 8 kc) ∧ w'.cell? ⟨b1, 0, none⟩ = some (.int .i64 x.f0) ∧ w'.cell? ⟨b1, 1, none⟩ = some (.int .i64 x.f1) ∧ w'.cell? ⟨b1, 2, none⟩ = some (.int .i64 x.f2) ∧ w'.cell? ⟨b1, 3, none⟩ = some (.float .f64 x.f3) ∧ w'.cell? ⟨b1, 4, none⟩ = some (.float .f64 x.f4) ∧ w'.cell? ⟨b1, 5, none⟩ = some (.int .i64 x.f5) ∧ w'.cell? ⟨b1, 6, none⟩ = some (.int .i64 x.f6) ∧ w'.cell? ⟨b1, 7, none⟩ = some (.int .i64 x.f7) ∧ w'.cell? ⟨b1, 8, none⟩ = some (.int .i64 x.f8) ∧ w'.cell? ⟨b1, 9, none⟩ = some (.int .i64 x.f9) ∧ w'.cell? ⟨b1, 10, none⟩ = some (.int .i64 x.f10)) (ds := [21]) #[false, false, false, false, false, false, false, false, false, false, false, false, false, false, false, false, false, false, false, false, false, false] (by kernel_rfl) rfl rfl ⟨(HB.out.cell (p := ⟨0, 0, none⟩) HK0.out).trans HKC.out, (xaA B1.out 0).trans rfl, (xaA B1.out 1).trans rfl, (xaA B1.out 2).trans rfl, (xaA B1.out 3).trans rfl, (xaA B1.out 4).trans rfl, (xaA B1.out 5).trans rfl, (xaA B1.out 6).trans rfl, (xaA B1.out 7).trans rfl, (xaA B1.out 8).trans rfl, (xaA B1.out 9).trans rfl, (xaA B1.out 10).trans rfl⟩ (fun hHeld => ?_)
 replace B2 := Aside0.mk (xaF B2.out)
 replace HB := Aside0.mk (xaM HB.out)
 clear B1
 generalize w1.drew = w2 at *
 refine rT 0 ?_
 refine rP 1 ?_
 refine rT 2 ?_
 refine rP 4 ?_
 refine rT 5 ?_
 refine rP 6 ?_
 refine rT 7 ?_
 refine rP 8 ?_
 refine rT 9 ?_
 refine rP 10 ?_
 refine rT 11 ?_
 refine rP 12 ?_
 refine rT 13 ?_
 refine rP 14 ?_
 refine rT 15 ?_
 refine rP 16 ?_
 refine rT 17 ?_
 refine rP 18 ?_
 refine rT 19 ?_
 refine rO 3 (fun K hK => ?_)
 refine goes_ Tryz.func71 (by kernel_rfl) rfl #[.slice (some ka) 8 kc, .int .i64 x.f0] (by rfl) rfl rfl (by (try simp only [List.map_toArray, List.map_cons, List.map_nil]); first | done | rfl) ?_
 refine (index_c _ HAS.out _ _ _ (fun j hj => (HB.out.cell (p := ka.add j) (by rw [add_block]; exact HKL.out)).trans (HKE.out j hj))).mono ?_
 rintro e w5 ⟨rfl, rfl⟩
 refine ⟨_, rfl, ?_⟩
 refine hK.out _ _ hHeld (fun hHeld => ?_)
 clear hK K
 refine rN ?_
 refine rP 20 ?_
 clear hHeld
 obtain ⟨d0, d1, d2, d3, d4, d5, d6, d7, d8, y0, y1, y2, y3, y4, y5, y6, y7, y8⟩ := blk9 B2
 refine rL 21 (fun K hK => ?_)
 refine skip_ (w1 := ?_) (by rfl) rfl ?_ ?_
 rotate_left
 ·
  go_simp
  rfl
 refine hK.out _ _ ?_
 clear hK K
 refine rD ?_
 clear d0 d1 d2 d3 d4 d5 d6 d7 d8 y0 y1 y2 y3 y4 y5 y6 y7 y8
 go_wp2_with fail
 have B3 := Aside0.mk (put9 (.int .i64 (opIx x.f0)) (.float .f64 x.f3) (.float .f64 x.f4) (.int .i64 x.f5) (.int .i64 x.f6) (.int .i64 x.f7) (.int .i64 x.f8) (.int .i64 x.f9) (.int .i64 x.f10) B2.out)
 have HB3 := Aside0.mk (put9_below (b := b1 + 1) (.int .i64 (opIx x.f0)) (.float .f64 x.f3) (.float .f64 x.f4) (.int .i64 x.f5) (.int .i64 x.f6) (.int .i64 x.f7) (.int .i64 x.f8) (.int .i64 x.f9) (.int .i64 x.f10) (by have := HB1.out; omega) HB.out)
 generalize (((((((((w5.setCell ⟨b1 + 1, 0, none⟩ (.int .i64 (opIx x.f0))).setCell ⟨b1 + 1, 1, none⟩ (.float .f64 x.f3)).setCell ⟨b1 + 1, 2, none⟩ (.float .f64 x.f4)).setCell ⟨b1 + 1, 3, none⟩ (.int .i64 x.f5)).setCell ⟨b1 + 1, 4, none⟩ (.int .i64 x.f6)).setCell ⟨b1 + 1, 5, none⟩ (.int .i64 x.f7)).setCell ⟨b1 + 1, 6, none⟩ (.int .i64 x.f8)).setCell ⟨b1 + 1, 7, none⟩ (.int .i64 x.f9)).setCell ⟨b1 + 1, 8, none⟩ (.int .i64 x.f10)) = w3 at *
 obtain ⟨d0, d1, d2, d3, d4, d5, d6, d7, d8, y0, y1, y2, y3, y4, y5, y6, y7, y8⟩ := blk9 B3
 refine bodyPost_ret (v := .agg #[.int .i64 (opIx x.f0), .float .f64 x.f3, .float .f64 x.f4, .int .i64 x.f5, .int .i64 x.f6, .int .i64 x.f7, .int .i64 x.f8, .int .i64 x.f9, .int .i64 x.f10]) (by simp [results, Tryz.results46, go_sem, d0, d1, d2, d3, d4, d5, d6, d7, d8]) rfl ⟨rfl, HB3.out⟩
inductive It where
  | tr (T : TT)
  | op (x : S103)
def TT.cost : TT → Nat
 | .leaf _ => 1
 | .un _ a => a.cost + 2
 | .both _ a b => a.cost + b.cost + 1
def It.cost : It → Nat
  | .tr T => T.cost
  | .op _ => 1
def It.code : It → List S37
  | .tr T => codeL (pcs T)
  | .op x => [opOf x]
def costI : List It → Nat
  | [] => 0
  | i :: r => i.cost + costI r
def codeI : List It → List S37
  | [] => []
  | i :: r => i.code ++ codeI r
def Ent (t : List S103) (i : Int) : It → Prop
  | .tr T => ∃ pre l post, t = pre ++ (l ++ post) ∧ Lay pre.length T l ∧ i = (pre.length : Int) + l.length - 1
  | .op x => ∃ j : Nat, t[j]? = some x ∧ i = (t.length : Int) + j ∧ HasO x.f0
def Ents (t : List S103) : List Int → List It → Prop
 | [], [] => True
 | i :: r, x :: s => Ent t i x ∧ Ents t r s
 | [], _ :: _ => False
 | _ :: _, [] => False
theorem Ents.len {t : List S103} : ∀ {l : List Int} {s : List It}, Ents t l s → l.length = s.length
 | [], [], _ => rfl
 | i :: r, x :: s, h => by rw [List.length_cons, List.length_cons, Ents.len h.2]
 | [], _ :: _, h => h.elim
 | _ :: _, [], h => h.elim
theorem TT.cost_pos : ∀ T : TT, 1 ≤ T.cost
 | .leaf _ => Nat.le_refl _
 | .un _ a => by rw [TT.cost]; omega
 | .both _ a b => by rw [TT.cost]; omega
theorem It.cost_pos : ∀ i : It, 1 ≤ i.cost
  | .tr T => T.cost_pos
  | .op _ => Nat.le_refl _
theorem cost_len : ∀ s : List It, s.length ≤ costI s
  | [] => Nat.le_refl _
  | i :: r => by rw [costI, List.length_cons]; have := i.cost_pos; have := cost_len r; omega
theorem Lay.cost {s : Nat} {T : TT} {l : List S103} (h : Lay s T l) : T.cost ≤ 2 * l.length := by
 induction h with
 | leaf => rw [TT.cost]; simp
 | un s x a l h ha h1 ih => rw [TT.cost]; simp; omega
 | both s x a b l m h ha hb h1 h2 iha ihb => rw [TT.cost]; simp; omega
section
variable {t : List S103} {i : Int}
theorem ent_leaf {x : S103} (h : Ent t i (.tr (.leaf x))) : ∃ j : Nat, t[j]? = some x ∧ i = (j : Int) ∧ partsP x.f0 = 0 := by
 obtain ⟨pre, l, post, e, hl, hi⟩ := h
 cases hl with
 | leaf _ _ hp hz => exact ⟨pre.length, by rw [e, List.getElem?_append_right (Nat.le_refl _)]; simp, by simp at hi; omega, hp⟩
theorem ent_un {x : S103} {a : TT} (h : Ent t i (.tr (.un x a))) : ∃ j : Nat, t[j]? = some x ∧ i = (j : Int) ∧ partsP x.f0 = 1 ∧ Ent t x.f1 (.tr a) := by
 obtain ⟨pre, l, post, e, hl, hi⟩ := h
 cases hl with
 | un _ _ _ l hp ha h1 =>
  refine ⟨pre.length + l.length, ?_, by simp at hi; push_cast; omega, hp, pre, l, [x] ++ post, by rw [e, List.append_assoc], ha, by omega⟩
  rw [e, ← List.append_assoc, ← List.append_assoc, List.append_assoc, List.getElem?_append_right (by simp)]
  simp
theorem ent_both {x : S103} {a b : TT} (h : Ent t i (.tr (.both x a b))) : ∃ j : Nat, t[j]? = some x ∧ i = (j : Int) ∧ partsP x.f0 = 2 ∧ Ent t x.f1 (.tr a) ∧ Ent t x.f2 (.tr b) := by
 obtain ⟨pre, l, post, e, hl, hi⟩ := h
 cases hl with
 | both _ _ _ _ l m hp ha hb h1 h2 =>
  refine ⟨pre.length + (l.length + m.length), ?_, by simp at hi; push_cast; omega, hp, ⟨pre, l, m ++ ([x] ++ post), by rw [e, List.append_assoc, List.append_assoc], ha, by omega⟩, ⟨pre ++ l, m, [x] ++ post, by rw [e, List.append_assoc, List.append_assoc, List.append_assoc], by rw [List.length_append]; exact hb, by rw [List.length_append]; push_cast; omega⟩⟩
  have e2 : t = (pre ++ (l ++ m)) ++ (x :: post) := by rw [e]; simp
  rw [e2, List.getElem?_append_right (by simp)]
  simp
end
theorem lit_C2 (w : World) (x y : Int) : Kd.C (Kd.int .i64) (w.alloc (.cells #[.int .i64 x, .int .i64 y] 3)) (some ⟨w.heap.size, 0, none⟩) 2 [x, y] := by
 have hn := xbB w (.cells #[.int .i64 x, .int .i64 y] 3)
 refine ⟨rfl, by decide, fun _ => ⟨_, rfl, fun j q hj => ?_⟩⟩
 match j, hj with
 | 0, hj =>
  injection hj with hj; subst hj
  refine ⟨_, rfl, rfl, fun i u hu => ?_⟩
  rw [Addr.add_lit, xaA hn]
  match i, hu with
  | 0, hu => exact hu
 | 1, hj =>
  injection hj with hj; subst hj
  refine ⟨_, rfl, rfl, fun i u hu => ?_⟩
  rw [Addr.add_lit, xaA hn]
  match i, hu with
  | 0, hu => exact hu
theorem lit_opM (w : World) : Kd.C k37 (w.alloc (.cells #[.int .i64 1, .float .f64 0, .float .f64 0, .int .i64 0, .int .i64 0, .int .i64 0, .int .i64 0, .int .i64 0, .int .i64 0] 37)) (some ⟨w.heap.size, 0, none⟩) 1 [opM] := lit_C (k37_mk w opM)
theorem top_int {w : World} {base : Nat} {F : Nat → Prop} {A : Option Addr} {c : Nat} {g : Int} {xs ys : List Int} (h : Sl (Kd.int .i64) 3 w base F A c xs) (e : xs = ys ++ [g]) : ∃ ad, A = some ad ∧ w.cell? (ad.add ys.length) = some (.int .i64 g) := by
 have hl : xs.length = ys.length + 1 := by rw [e, List.length_append]; rfl
 obtain ⟨ad, e1, hx⟩ := Kd.at_int h.C (ys.length : Int) (by omega) (by omega)
 have h3 : rd xs (ys.length : Int) = g := by rw [e]; simp [rd]
 rw [h3, Int.toNat_natCast] at hx
 exact ⟨ad, e1, hx⟩
theorem compile_bad (t : List S103) (A : Option Addr) (c : Nat) (w : World) (hr : Kd.C k103 w A t.length t) (he : (checkT t).1 ≠ 0) : Calls Tryz.prog 27 #[.slice A t.length c] w fun e w' => e = .returned (.tuple #[.slice none 0 0, .int .i64 (checkT t).1]) ∧ Below w.heap.size w w' := by
 have hck := xfV t A c w hr
 generalize (checkT t).1 = e1 at he hck
 generalize (checkT t).2 = a1 at hck
 have HC := Aside0.mk hck
 have t0 : (e1 != 0) = true := bne_iff_ne.2 he
 clear hr he hck
 go_enter Tryz.func27, Tryz.ntmps27
 go_wp2_with (go_at_call 45; (with_reducible refine (HC.out).mono ?_); rintro e w1 ⟨rfl, hb⟩; have HB := Aside0.mk hb; clear hb)
 go_ret2
 exact ⟨rfl, HB.out⟩
theorem compile_ok (t : List S103) (T : TT) (hlay : Lay 0 T t) (hl : t.length ≤ 1024) (hf : ∀ x ∈ t, fieldsB x = true) (A : Option Addr) (c : Nat) (w : World) (hk : KT w) (hr : Kd.C k103 w A t.length t) (he : (checkT t).1 = 0) :
  Calls Tryz.prog 27 #[.slice A t.length c] w fun e w' => ∃ A', e = .returned (.tuple #[.slice A' (codeL (pcs T)).length (codeL (pcs T)).length, .int .i64 0]) ∧ Sl k37 37 w' w.heap.size (fun _ => True) A' (codeL (pcs T)).length (codeL (pcs T)) ∧ Below w.heap.size w w' := by
 have hck := xfV t A c w hr
 rw [he] at hck
 generalize (checkT t).2 = a1 at hck
 have hlen : (codeL (pcs T)).length ≤ 2048 := by have := (pcs_dep hlay).2; omega
 have hcost := hlay.cost
 have hent : Ent t ((t.length : Int) - 1) (.tr T) := ⟨[], t, [], by simp, hlay, by simp⟩
 have hpos := hlay.pos
 have hw0 := cw t.length (t.length - 1) (by omega) (by omega)
 have ei : ((t.length - 1 : Nat) : Int) = (t.length : Int) - 1 := by omega
 rw [ei] at hw0
 generalize htot : codeL (pcs T) = tot at hlen
 have HTOT := Aside0.mk htot;have HCK := Aside0.mk hck;have HK := Aside0.mk hk;have HR := Aside0.mk hr;have HTL := Aside0.mk hl;have HLEN := Aside0.mk hlen
 have HCOST : Aside0 (T.cost ≤ 2048) := ⟨by omega⟩
 have HENT := Aside0.mk hent;have HF := Aside0.mk hf;clear hlay hck hk hr hl hlen hcost hent hpos ei hf he htot
 go_enter Tryz.func27, Tryz.ntmps27
 go_upto_region 5 with (go_at_call 45; (with_reducible refine (HCK.out).mono ?_); rintro e w1 ⟨rfl, hb⟩; have HB := Aside0.mk hb; clear hb)
 clear HCK
 go_wp2_with fail
 have HS0 : Aside0 (Sl (Kd.int .i64) 3 (w1.alloc (.cells #[.int .i64 ((t.length : Int) - 1)] 3)) w.heap.size (fun _ => True) (some ⟨w1.heap.size, 0, none⟩) 1 [(t.length : Int) - 1]) := ⟨⟨Nat.le_refl _, by simp, Or.inr ⟨w1.heap.size, 0, #[.int .i64 ((t.length : Int) - 1)], [.int .i64 ((t.length : Int) - 1)], rfl, trivial, HB.out.size, xbB _ _, by show 0 + 1 * 1 ≤ 1; omega, ⟨rfl, fun j p hj => by
  match j, hj with
  | 0, hj => injection hj with hj; subst hj; rfl
  | j + 1, hj => simp at hj⟩, rfl⟩⟩⟩
 replace HB := Aside0.mk (xaC HB.out (.cells #[.int .i64 ((t.length : Int) - 1)] 3))
 go_loopg [6, 7] (T.cost) (fun kq v6 v7 w' => ∃ (cur : List S37) (stk : List Int) (its : List It) (Al : Option Addr) (cl : Nat) (As : Option Addr) (cs : Nat), kq = costI its ∧ v6 = .slice Al cur.length cl ∧ v7 = .slice As stk.length cs ∧ Aside0 (kq ≤ 2048) ∧ Aside0 (cur ++ codeI its = tot) ∧ Aside0 (Ents t stk its) ∧ Aside0 (Sl k37 37 w' w.heap.size (fun _ => True) Al cl cur) ∧ Aside0 (Sl (Kd.int .i64) 3 w' w.heap.size (fun _ => True) As cs stk.reverse) ∧ Aside0 (Below w.heap.size w w'))
 case atStart => exact ⟨[], [(t.length : Int) - 1], [.tr T], none, 0, some ⟨w1.heap.size, 0, none⟩, 1, by rw [costI, costI]; rfl, rfl, rfl, ⟨HCOST.out⟩, ⟨by rw [codeI, codeI, List.append_nil, List.nil_append]; exact HTOT.out⟩, ⟨⟨HENT.out, trivial⟩⟩, ⟨Sl.nil _ _ _ _ _⟩, HS0, HB⟩
 case round =>
  clear HS0 HB
  obtain ⟨cur, stk, its, Al, cl, As, cs, hk, rfl, rfl, HKQ, HCO, HEN, HC, HS, HB⟩ := hrel
  have HCL : Aside0 (cur.length ≤ 2048) := ⟨by have h1 := congrArg List.length HCO.out; rw [List.length_append] at h1; have := HLEN.out; omega⟩
  have HCL8 : Aside0 ((cur.length + 1) * 72 ≤ 140737488355328) := ⟨by have := HCL.out; omega⟩
  match its, hk, HCO, HEN with
  | [], hk, HCO, HEN =>
   have hs0 : stk = [] := by
    match stk, HEN with
    | [], _ => rfl
    | _ :: _, HEN => exact HEN.out.elim
   subst hs0
   have e : cur = tot := by have := HCO.out; rw [codeI, List.append_nil] at this; exact this
   subst e;clear hk
   go_wp2_with (go_at_call 41; (with_reducible refine (clip_op _ _ _ _ HC.out.le HC.out.lim).mono ?_); rintro e w' ⟨rfl, hw_⟩; obtain rfl := hw_.symm)
   go_ret2
   have hh := HC.out.head cur.length cur.length (Nat.le_refl _) (Nat.le_refl _) HC.out.le
   rw [List.take_length] at hh
   exact ⟨Al, rfl, hh, HB.out⟩
  | it :: is, hk, HCO, HEN =>
  obtain ⟨i0, r, rfl⟩ : ∃ i0 r, stk = i0 :: r := by
   match stk, HEN with
   | [], HEN => exact HEN.out.elim
   | i0 :: r, _ => exact ⟨i0, r, rfl⟩
  have hent := HEN.out.1;have HENR := Aside0.mk HEN.out.2
  rw [costI] at hk
  have HRL : Aside0 (r.length ≤ 2048) := ⟨by have h1 := HENR.out.len; have h2 := cost_len is; have := HKQ.out; omega⟩
  have HRL8 : Aside0 ((r.reverse.length + 2) * 8 ≤ 140737488355328) := ⟨by rw [List.length_reverse]; have := HRL.out; omega⟩
  clear HEN
  obtain ⟨sa, rfl, hcell⟩ := top_int (ys := r.reverse) HS.out List.reverse_cons
  rw [List.length_reverse] at hcell
  have hle := HS.out.le
  rw [List.length_reverse] at hle
  have hS2 := HS.out.head r.length cs (by rw [List.length_reverse]; simp) (by simp only [List.length_cons] at hle; omega) (Nat.le_refl _)
  rw [show (i0 :: r).reverse.take r.length = r.reverse by rw [List.reverse_cons]; exact List.take_left' List.length_reverse] at hS2
  obtain ⟨n, hn⟩ : ∃ n, n = (i0 :: r).length := ⟨_, rfl⟩
  obtain ⟨m, hm⟩ : ∃ m, m = r.length := ⟨_, rfl⟩
  rw [← hn] at hle ⊢
  rw [← hm] at hcell
  have hnm : n = m + 1 := by rw [hn, hm, List.length_cons]
  have hwr := cw n m hnm (by have := HRL.out; omega)
  have p1 : m < n := by omega
  have p2 : 0 < n := by omega
  have q1_ : m ≤ cs := by omega
  have HM := Aside0.mk hm;replace HS := Aside0.mk hS2;clear hn hm hnm hS2
  match it, hent, hk, HCO with
  | .op x, hent, hk, HCO =>
   obtain ⟨j, hx, rfl, hh⟩ := hent
   have hjl : j < t.length := by rcases Nat.lt_or_ge j t.length with h | h; exact h; rw [List.getElem?_eq_none h] at hx; cases hx
   have hxe : t[j] = x := by rw [List.getElem?_eq_getElem hjl] at hx; exact Option.some.inj hx
   have HAS := Aside0.mk hh
   have t9 : decide ((t.length : Int) ≤ (t.length : Int) + (j : Int)) = true := decide_eq_true (by omega)
   have HW : Aside0 (wrap64 ((t.length : Int) + (j : Int) - (t.length : Int)) = (j : Int) ∧ IntKind.i64.wrap ((t.length : Int) + (j : Int) - (t.length : Int)) = (j : Int)) := ⟨by rw [i64_w]; unfold wrap64; have := HTL.out; omega⟩
   obtain ⟨ad, ee, q0, q1, q2, q3, q4, q5, q6, q7, q8, q9, q10⟩ := xfW (Kd.xbP HR.out HB.out) (j : Int) (by omega) (by omega)
   subst ee
   rw [rd103 hjl, hxe] at q0 q1 q2 q3 q4 q5 q6 q7 q8 q9 q10
   rw [Int.toNat_natCast] at q0 q1 q2 q3 q4 q5 q6 q7 q8 q9 q10
   clear hh hx hxe
   obtain ⟨hw2, hw3⟩ := HW.out
   go_wp2_with (first | (go_at_call 46; (with_reducible refine (op_c x HAS.out _ (HK.out.below HB.out)).mono ?_); rintro e w5 ⟨rfl, hb⟩; replace HC := Aside0.mk (HC.out.below hb); replace HS := Aside0.mk (HS.out.below hb); replace HB := Aside0.mk (HB.out.trans (hb.mono HB.out.size)); clear hb) | ((with_reducible refine xaR (b := .append) (xs := #[.tmp 40, .tmp 49]) rfl ?_); go_loud (refine Sl.xcZ rfl (.tmp 40) (.tmp 49) 22 (.agg #[.int .i64 0, .float .f64 0, .float .f64 0, .int .i64 0, .int .i64 0, .int .i64 0, .int .i64 0, .int .i64 0, .int .i64 0]) 72 rfl Tryz.underlying22 info37 rfl (by decide) (by omega) (ys := [opOf x]) rfl rfl (HC.out.below (xaC (Below.refl _ _) _)) (lit_C (k37_mk _ (opOf x))) (xaC HB.out _).size HCL8.out ?_; intro A5 c5 w6 ho hf _; have HS1 := Aside0.mk (Sl.keep (HS.out.below (xaC (Below.refl _ _) _)) (HC.out.below (xaC (Below.refl _ _) _)) (by decide) hf); have HB1 := Aside0.mk ((xaC HB.out _).trans (hf.xcW (xaC HB.out _).size (fun k hk => (HC.out.own_bd k hk).1))); have HC1 := Aside0.mk (ho.mono (G := fun _ => True) (fun _ _ _ => trivial)); clear ho hf)))
   clear hw2 hw3
   have HCO1 : Aside0 ((cur ++ [opOf x]) ++ codeI is = tot) := ⟨by rw [List.append_assoc]; exact HCO.out⟩
   go_roundg (gk - 1)
   case measure => rw [show (It.op x).cost = 1 from rfl] at hk; omega
   case rel => exact ⟨cur ++ [opOf x], r, is, A5, c5, some sa, cs, by rw [show (It.op x).cost = 1 from rfl] at hk; omega, by rw [List.length_append]; rfl, by rw [HM.out], ⟨by have := HKQ.out; omega⟩, HCO1, HENR, HC1, HS1, HB1⟩
  | .tr (.leaf x), hent, hk, HCO =>
   obtain ⟨j, hx, rfl, hp⟩ := ent_leaf hent
   have hjl : j < t.length := by rcases Nat.lt_or_ge j t.length with h | h; exact h; rw [List.getElem?_eq_none h] at hx; cases hx
   have hxe : t[j] = x := by rw [List.getElem?_eq_getElem hjl] at hx; exact Option.some.inj hx
   have hk1 : (It.tr (.leaf x)).cost = 1 := rfl
   rw [hk1] at hk
   obtain ⟨ad, ee, q0, q1, q2, q3, q4, q5, q6, q7, q8, q9, q10⟩ := xfW (Kd.xbP HR.out HB.out) (j : Int) (by omega) (by omega)
   subst ee
   rw [rd103 hjl, hxe] at q0 q1 q2 q3 q4 q5 q6 q7 q8 q9 q10
   rw [Int.toNat_natCast] at q0 q1 q2 q3 q4 q5 q6 q7 q8 q9 q10
   clear hent hx hxe
   have t9 : decide ((t.length : Int) ≤ (j : Int)) = false := decide_eq_false (by omega)
   have B9 := Aside0.mk (xbB wr (.cells #[.int .i64 x.f0, .int .i64 x.f1, .int .i64 x.f2, .float .f64 x.f3, .float .f64 x.f4, .int .i64 x.f5, .int .i64 x.f6, .int .i64 x.f7, .int .i64 x.f8, .int .i64 x.f9, .int .i64 x.f10] 103))
   go_upto_region 12 with fail
   replace HC := Aside0.mk (HC.out.below (xaC (Below.refl wr.heap.size wr) (.cells #[.int .i64 x.f0, .int .i64 x.f1, .int .i64 x.f2, .float .f64 x.f3, .float .f64 x.f4, .int .i64 x.f5, .int .i64 x.f6, .int .i64 x.f7, .int .i64 x.f8, .int .i64 x.f9, .int .i64 x.f10] 103)))
   replace HS := Aside0.mk (HS.out.below (xaC (Below.refl wr.heap.size wr) (.cells #[.int .i64 x.f0, .int .i64 x.f1, .int .i64 x.f2, .float .f64 x.f3, .float .f64 x.f4, .int .i64 x.f5, .int .i64 x.f6, .int .i64 x.f7, .int .i64 x.f8, .int .i64 x.f9, .int .i64 x.f10] 103)))
   replace HB := Aside0.mk (xaC HB.out (.cells #[.int .i64 x.f0, .int .i64 x.f1, .int .i64 x.f2, .float .f64 x.f3, .float .f64 x.f4, .int .i64 x.f5, .int .i64 x.f6, .int .i64 x.f7, .int .i64 x.f8, .int .i64 x.f9, .int .i64 x.f10] 103))
   clear q0 q1 q2 q3 q4 q5 q6 q7 q8 q9 q10
   generalize wr.heap.size = g9 at B9 ⊢
   generalize wr.alloc (.cells #[.int .i64 x.f0, .int .i64 x.f1, .int .i64 x.f2, .float .f64 x.f3, .float .f64 x.f4, .int .i64 x.f5, .int .i64 x.f6, .int .i64 x.f7, .int .i64 x.f8, .int .i64 x.f9, .int .i64 x.f10] 103) = W9 at B9 HC HS HB ⊢
   obtain ⟨⟨d0, d1, d2, d3, d4, d5, d6, d7, d8, d9, d10⟩, y_⟩ := blk11 B9
   clear y_
   rcases parts0 hp with h1 | h1 | h1
   ·
    have t1 : (x.f0 == 1) = true := beq_iff_eq.2 h1
    have HCO1 : Aside0 (cur ++ codeI is = tot) := ⟨by have := HCO.out; rw [codeI, show (It.tr (.leaf x)).code = [] by (show codeL (pcs (.leaf x)) = []; rw [pcs, if_pos h1, codeL])] at this; exact this⟩
    clear h1
    go_wp2_with fail
    go_roundg (gk - 1)
    case measure => omega
    case rel => exact ⟨cur, r, is, Al, cl, some sa, cs, by omega, rfl, by rw [HM.out], ⟨by have := HKQ.out; omega⟩, HCO1, HENR, HC, HS, HB⟩
   all_goals
    have t1 : (x.f0 == 1) = false := by rw [h1]; rfl
    first | have t2 : (x.f0 == 2) = true := beq_iff_eq.2 h1 | (have t2 : (x.f0 == 2) = false := by rw [h1]; rfl)
    first | have t3 : (x.f0 == 3) = true := beq_iff_eq.2 h1 | (have t3 : (x.f0 == 3) = false := by rw [h1]; rfl)
    have HAS : Aside0 (HasO x.f0) := ⟨by unfold HasO; omega⟩
    have HCO1 : Aside0 ((cur ++ [opOf x]) ++ codeI is = tot) := ⟨by
     have := HCO.out
     have ha : addsB (opOf x).f0 = true := (xbV _).2 (by rw [(xiB hp (by omega)).2]; omega)
     rw [codeI, show (It.tr (.leaf x)).code = [opOf x] by (show codeL (pcs (.leaf x)) = [opOf x]; rw [pcs, if_neg (by omega), codeL, codeL, codeP, if_pos ha]; rfl)] at this
     rw [List.append_assoc]; exact this⟩
    clear h1
    go_wp2_with (first | (go_at_call 46; (with_reducible refine (op_c x HAS.out _ (HK.out.below HB.out)).mono ?_); rintro e w5 ⟨rfl, hb⟩; replace HC := Aside0.mk (HC.out.below hb); replace HS := Aside0.mk (HS.out.below hb); replace HB := Aside0.mk (HB.out.trans (hb.mono HB.out.size)); clear hb) | ((with_reducible refine xaR (b := .append) (xs := #[.tmp 75, .tmp 78]) rfl ?_); go_loud (refine Sl.xcZ rfl (.tmp 75) (.tmp 78) 22 (.agg #[.int .i64 0, .float .f64 0, .float .f64 0, .int .i64 0, .int .i64 0, .int .i64 0, .int .i64 0, .int .i64 0, .int .i64 0]) 72 rfl Tryz.underlying22 info37 rfl (by decide) (by omega) (ys := [opOf x]) rfl rfl (HC.out.below (xaC (Below.refl _ _) _)) (lit_C (k37_mk _ (opOf x))) (xaC HB.out _).size HCL8.out ?_; intro A5 c5 w6 ho hf _; have HS1 := Aside0.mk (Sl.keep (HS.out.below (xaC (Below.refl _ _) _)) (HC.out.below (xaC (Below.refl _ _) _)) (by decide) hf); have HB1 := Aside0.mk ((xaC HB.out _).trans (hf.xcW (xaC HB.out _).size (fun k hk => (HC.out.own_bd k hk).1))); have HC1 := Aside0.mk (ho.mono (G := fun _ => True) (fun _ _ _ => trivial)); clear ho hf)))
    go_roundg (gk - 1)
    case measure => omega
    case rel => exact ⟨cur ++ [opOf x], r, is, A5, c5, some sa, cs, by omega, by rw [List.length_append]; rfl, by rw [HM.out], ⟨by have := HKQ.out; omega⟩, HCO1, HENR, HC1, HS1, HB1⟩
  | .tr (.both x a b), hent, hk, HCO =>
   obtain ⟨j, hx, rfl, hp, hea, heb⟩ := ent_both hent
   have hjl : j < t.length := by rcases Nat.lt_or_ge j t.length with h | h; exact h; rw [List.getElem?_eq_none h] at hx; cases hx
   have hxe : t[j] = x := by rw [List.getElem?_eq_getElem hjl] at hx; exact Option.some.inj hx
   have hk1 : (It.tr (.both x a b)).cost = a.cost + b.cost + 1 := rfl
   rw [hk1] at hk
   have HEA := Aside0.mk hea;have HEB := Aside0.mk heb
   obtain ⟨ad, ee, q0, q1, q2, q3, q4, q5, q6, q7, q8, q9, q10⟩ := xfW (Kd.xbP HR.out HB.out) (j : Int) (by omega) (by omega)
   subst ee
   rw [rd103 hjl, hxe] at q0 q1 q2 q3 q4 q5 q6 q7 q8 q9 q10
   rw [Int.toNat_natCast] at q0 q1 q2 q3 q4 q5 q6 q7 q8 q9 q10
   clear hent hx hxe hea heb
   have t9 : decide ((t.length : Int) ≤ (j : Int)) = false := decide_eq_false (by omega)
   have B9 := Aside0.mk (xbB wr (.cells #[.int .i64 x.f0, .int .i64 x.f1, .int .i64 x.f2, .float .f64 x.f3, .float .f64 x.f4, .int .i64 x.f5, .int .i64 x.f6, .int .i64 x.f7, .int .i64 x.f8, .int .i64 x.f9, .int .i64 x.f10] 103))
   go_upto_region 12 with fail
   replace HC := Aside0.mk (HC.out.below (xaC (Below.refl wr.heap.size wr) (.cells #[.int .i64 x.f0, .int .i64 x.f1, .int .i64 x.f2, .float .f64 x.f3, .float .f64 x.f4, .int .i64 x.f5, .int .i64 x.f6, .int .i64 x.f7, .int .i64 x.f8, .int .i64 x.f9, .int .i64 x.f10] 103)))
   replace HS := Aside0.mk (HS.out.below (xaC (Below.refl wr.heap.size wr) (.cells #[.int .i64 x.f0, .int .i64 x.f1, .int .i64 x.f2, .float .f64 x.f3, .float .f64 x.f4, .int .i64 x.f5, .int .i64 x.f6, .int .i64 x.f7, .int .i64 x.f8, .int .i64 x.f9, .int .i64 x.f10] 103)))
   replace HB := Aside0.mk (xaC HB.out (.cells #[.int .i64 x.f0, .int .i64 x.f1, .int .i64 x.f2, .float .f64 x.f3, .float .f64 x.f4, .int .i64 x.f5, .int .i64 x.f6, .int .i64 x.f7, .int .i64 x.f8, .int .i64 x.f9, .int .i64 x.f10] 103))
   clear q0 q1 q2 q3 q4 q5 q6 q7 q8 q9 q10
   generalize wr.heap.size = g9 at B9 ⊢
   generalize wr.alloc (.cells #[.int .i64 x.f0, .int .i64 x.f1, .int .i64 x.f2, .float .f64 x.f3, .float .f64 x.f4, .int .i64 x.f5, .int .i64 x.f6, .int .i64 x.f7, .int .i64 x.f8, .int .i64 x.f9, .int .i64 x.f10] 103) = W9 at B9 HC HS HB ⊢
   obtain ⟨⟨d0, d1, d2, d3, d4, d5, d6, d7, d8, d9, d10⟩, y_⟩ := blk11 B9
   clear y_;have h1 := parts2 hp
   have t1 : (x.f0 == 1) = false := by rw [h1]; rfl
   have t2 : (x.f0 == 2) = false := by rw [h1]; rfl
   have t3 : (x.f0 == 3) = false := by rw [h1]; rfl
   have t5 : (x.f0 == 5) = true := beq_iff_eq.2 h1
   have HCO1 : Aside0 (cur ++ codeI (.tr a :: .tr b :: is) = tot) := ⟨by
    have := HCO.out
    rw [codeI, show (It.tr (.both x a b)).code = codeL (pcs a) ++ codeL (pcs b) by (show codeL (pcs (.both x a b)) = _; rw [pcs, xeJ])] at this
    rw [codeI, codeI, ← this]; simp [It.code]⟩
   clear h1
   go_wp2_with ((with_reducible refine xaR (b := .append) (xs := #[.tmp 82, .tmp 87]) rfl ?_); go_loud (refine Sl.xcZ rfl (.tmp 82) (.tmp 87) 49 (.int .i64 0) 8 rfl Tryz.underlying49 info3 rfl (by decide) (by omega) (xs := r.reverse) (ys := [x.f2, x.f1]) ?aS rfl (HS.out.below (xaC (Below.refl _ _) _)) (lit_C2 _ _ _) (xaC HB.out _).size HRL8.out ?_; (case aS => rw [List.length_reverse, HM.out]; rfl); intro A7 c7 w7 ho hf _; have HC1 := Aside0.mk (Sl.keep (HC.out.below (xaC (Below.refl _ _) _)) (HS.out.below (xaC (Below.refl _ _) _)) (by decide) hf); have HB1 := Aside0.mk ((xaC HB.out _).trans (hf.xcW (xaC HB.out _).size (fun k hk => (HS.out.own_bd k hk).1))); have HS1 := Aside0.mk (ho.mono (G := fun _ => True) (fun _ _ _ => trivial)); clear ho hf))
   go_roundg (gk - 1)
   case measure => omega
   case rel => exact ⟨cur, x.f1 :: x.f2 :: r, .tr a :: .tr b :: is, Al, cl, A7, c7, by rw [costI, costI]; show _ = a.cost + (b.cost + costI is); omega, rfl, rfl, ⟨by have := HKQ.out; omega⟩, HCO1, ⟨⟨HEA.out, HEB.out, HENR.out⟩⟩, HC1, ⟨by have h := HS1.out; rw [List.reverse_cons, List.reverse_cons, List.append_assoc]; exact h⟩, HB1⟩
  | .tr (.un x a), hent, hk, HCO =>
   obtain ⟨j, hx, rfl, hp, hea⟩ := ent_un hent
   have hjl : j < t.length := by rcases Nat.lt_or_ge j t.length with h | h; exact h; rw [List.getElem?_eq_none h] at hx; cases hx
   have hxe : t[j] = x := by rw [List.getElem?_eq_getElem hjl] at hx; exact Option.some.inj hx
   have hk1 : (It.tr (.un x a)).cost = a.cost + 2 := rfl
   rw [hk1] at hk
   have HEA := Aside0.mk hea
   have hkd := parts1 hp (kind_of (HF.out x (by rw [← hxe]; exact List.getElem_mem _)))
   have HEX : Aside0 (Ent t ((t.length : Int) + (j : Int)) (.op x)) := ⟨⟨j, hx, rfl, by unfold HasO; omega⟩⟩
   have HW : Aside0 (wrap64 ((j : Int) + (t.length : Int)) = (t.length : Int) + (j : Int) ∧ IntKind.i64.wrap ((j : Int) + (t.length : Int)) = (t.length : Int) + (j : Int)) := ⟨by rw [i64_w]; unfold wrap64; have := HTL.out; omega⟩
   obtain ⟨ad, ee, q0, q1, q2, q3, q4, q5, q6, q7, q8, q9, q10⟩ := xfW (Kd.xbP HR.out HB.out) (j : Int) (by omega) (by omega)
   subst ee
   rw [rd103 hjl, hxe] at q0 q1 q2 q3 q4 q5 q6 q7 q8 q9 q10
   rw [Int.toNat_natCast] at q0 q1 q2 q3 q4 q5 q6 q7 q8 q9 q10
   clear hent hx hxe hea
   have t9 : decide ((t.length : Int) ≤ (j : Int)) = false := decide_eq_false (by omega)
   have B9 := Aside0.mk (xbB wr (.cells #[.int .i64 x.f0, .int .i64 x.f1, .int .i64 x.f2, .float .f64 x.f3, .float .f64 x.f4, .int .i64 x.f5, .int .i64 x.f6, .int .i64 x.f7, .int .i64 x.f8, .int .i64 x.f9, .int .i64 x.f10] 103))
   go_upto_region 12 with fail
   replace HC := Aside0.mk (HC.out.below (xaC (Below.refl wr.heap.size wr) (.cells #[.int .i64 x.f0, .int .i64 x.f1, .int .i64 x.f2, .float .f64 x.f3, .float .f64 x.f4, .int .i64 x.f5, .int .i64 x.f6, .int .i64 x.f7, .int .i64 x.f8, .int .i64 x.f9, .int .i64 x.f10] 103)))
   replace HS := Aside0.mk (HS.out.below (xaC (Below.refl wr.heap.size wr) (.cells #[.int .i64 x.f0, .int .i64 x.f1, .int .i64 x.f2, .float .f64 x.f3, .float .f64 x.f4, .int .i64 x.f5, .int .i64 x.f6, .int .i64 x.f7, .int .i64 x.f8, .int .i64 x.f9, .int .i64 x.f10] 103)))
   replace HB := Aside0.mk (xaC HB.out (.cells #[.int .i64 x.f0, .int .i64 x.f1, .int .i64 x.f2, .float .f64 x.f3, .float .f64 x.f4, .int .i64 x.f5, .int .i64 x.f6, .int .i64 x.f7, .int .i64 x.f8, .int .i64 x.f9, .int .i64 x.f10] 103))
   clear q0 q1 q2 q3 q4 q5 q6 q7 q8 q9 q10
   generalize wr.heap.size = g9 at B9 ⊢
   generalize wr.alloc (.cells #[.int .i64 x.f0, .int .i64 x.f1, .int .i64 x.f2, .float .f64 x.f3, .float .f64 x.f4, .int .i64 x.f5, .int .i64 x.f6, .int .i64 x.f7, .int .i64 x.f8, .int .i64 x.f9, .int .i64 x.f10] 103) = W9 at B9 HC HS HB ⊢
   obtain ⟨⟨d0, d1, d2, d3, d4, d5, d6, d7, d8, d9, d10⟩, y_⟩ := blk11 B9
   clear y_
   have t1 : (x.f0 == 1) = false := beq_eq_false_iff_ne.2 (by omega)
   have t2 : (x.f0 == 2) = false := beq_eq_false_iff_ne.2 (by omega)
   have t3 : (x.f0 == 3) = false := beq_eq_false_iff_ne.2 (by omega)
   have t5 : (x.f0 == 5) = false := beq_eq_false_iff_ne.2 (by omega)
   have HCO1 : Aside0 ((cur ++ [opM]) ++ codeI (.tr a :: .op x :: is) = tot) := ⟨by
    have := HCO.out
    have ha : ¬ addsB (opOf x).f0 = true := fun h => by
     have h1 := (xbV _).1 h
     change opIx x.f0 = 2 ∨ opIx x.f0 = 3 at h1
     rcases hkd with h | h | h | h <;> (rw [h] at h1; exact absurd h1 (by decide))
    rw [codeI, show (It.tr (.un x a)).code = opM :: (codeL (pcs a) ++ [opOf x]) by (show codeL (pcs (.un x a)) = _; rw [pcs, codeL, codeL, codeP, if_neg ha]; simp)] at this
    rw [codeI, codeI, ← this]; simp [It.code]⟩
   clear hkd
   go_upto_region 14 with ((with_reducible refine xaR (b := .append) (xs := #[.tmp 57, .tmp 59]) rfl ?_); go_loud (refine Sl.xcZ rfl (.tmp 57) (.tmp 59) 22 (.agg #[.int .i64 0, .float .f64 0, .float .f64 0, .int .i64 0, .int .i64 0, .int .i64 0, .int .i64 0, .int .i64 0, .int .i64 0]) 72 rfl Tryz.underlying22 info37 rfl (by decide) (by omega) (ys := [opM]) rfl rfl (HC.out.below (xaC (Below.refl _ _) _)) (lit_opM _) (xaC HB.out _).size HCL8.out ?_; intro A5 c5 w6 ho hf _; have HS1 := Aside0.mk (Sl.keep (HS.out.below (xaC (Below.refl _ _) _)) (HC.out.below (xaC (Below.refl _ _) _)) (by decide) hf); have HB1 := Aside0.mk ((xaC HB.out _).trans (hf.xcW (xaC HB.out _).size (fun k hk => (HC.out.own_bd k hk).1))); have HC1 := Aside0.mk (ho.mono (G := fun _ => True) (fun _ _ _ => trivial)); have hb9 := xaE B9.out (.cells #[.int .i64 1, .float .f64 0, .float .f64 0, .int .i64 0, .int .i64 0, .int .i64 0, .int .i64 0, .int .i64 0, .int .i64 0] 37); have hc9 := HC.out.below (xaC (Below.refl W9.heap.size W9) (.cells #[.int .i64 1, .float .f64 0, .float .f64 0, .int .i64 0, .int .i64 0, .int .i64 0, .int .i64 0, .int .i64 0, .int .i64 0] 37)); replace B9 := Aside0.mk (hf.blk hb9 (hc9.own_ty hb9 (by decide))); clear hb9 hc9; clear ho hf))
   clear d0 d1 d2 d3 d4 d5 d6 d7 d8 d9 d10
   obtain ⟨⟨d0, d1, d2, d3, d4, d5, d6, d7, d8, d9, d10⟩, y_⟩ := blk11 B9
   clear y_
   obtain ⟨hw2, hw3⟩ := HW.out
   go_wp2_with ((with_reducible refine xaR (b := .append) (xs := #[.tmp 61, .tmp 68]) rfl ?_); go_loud (refine Sl.xcZ rfl (.tmp 61) (.tmp 68) 49 (.int .i64 0) 8 rfl Tryz.underlying49 info3 rfl (by decide) (by omega) (xs := r.reverse) (ys := [(t.length : Int) + (j : Int), x.f1]) ?aS rfl (HS1.out.below (xaC (Below.refl _ _) _)) (lit_C2 _ _ _) (xaC HB1.out _).size HRL8.out ?_; (case aS => rw [List.length_reverse, HM.out]; rfl); intro A7 c7 w7 ho hf _; have HC2 := Aside0.mk (Sl.keep (HC1.out.below (xaC (Below.refl _ _) _)) (HS1.out.below (xaC (Below.refl _ _) _)) (by decide) hf); have HB2 := Aside0.mk ((xaC HB1.out _).trans (hf.xcW (xaC HB1.out _).size (fun k hk => (HS1.out.own_bd k hk).1))); have HS2 := Aside0.mk (ho.mono (G := fun _ => True) (fun _ _ _ => trivial)); clear ho hf))
   clear hw2 hw3
   go_roundg (gk - 1)
   case measure => omega
   case rel => exact ⟨cur ++ [opM], x.f1 :: ((t.length : Int) + (j : Int)) :: r, .tr a :: .op x :: is, A5, c5, A7, c7, by rw [costI, costI]; show _ = a.cost + (1 + costI is); omega, by rw [List.length_append]; rfl, rfl, ⟨by have := HKQ.out; omega⟩, HCO1, ⟨⟨HEA.out, HEX.out, HENR.out⟩⟩, HC2, ⟨by have h := HS2.out; rw [List.reverse_cons, List.reverse_cons, List.append_assoc]; exact h⟩, HB2⟩
def asI (fr : List Nat) : List Int := (fr.map (fun (n : Nat) => (n : Int))).reverse
theorem xgZ (fr : List Nat) : (asI fr).length = fr.length := by unfold asI; simp
theorem asI_cons (s : Nat) (fr : List Nat) : asI (s :: fr) = asI fr ++ [(s : Int)] := by unfold asI; simp
theorem Inc.mono : ∀ {fr : List Nat} {n m : Nat}, Inc fr n → n ≤ m → Inc fr m
  | [], _, _, _, _ => trivial
  | _ :: _, _, _, h, hm => ⟨Nat.le_trans h.1 hm, h.2⟩
theorem pop_int {w : World} {base : Nat} {F : Nat → Prop} {A : Option Addr} {c s : Nat} {fr : List Nat} (h : Sl (Kd.int .i64) 3 w base F A c (asI (s :: fr))) : ∃ ad, A = some ad ∧ w.cell? (ad.add fr.length) = some (.int .i64 (s : Int)) ∧ Sl (Kd.int .i64) 3 w base F A c (asI fr) ∧ fr.length + 1 ≤ c := by
 obtain ⟨ad, e, hc⟩ := top_int h (asI_cons s fr)
 rw [xgZ] at hc
 have hle := h.le
 rw [xgZ, List.length_cons] at hle
 have h2 := h.head fr.length c (by rw [xgZ, List.length_cons]; omega) (by omega) (Nat.le_refl _)
 rw [asI_cons, List.take_left' (xgZ fr)] at h2
 exact ⟨ad, e, hc, h2, hle⟩
theorem dflows_bad (t : List S103) (A : Option Addr) (c : Nat) (w : World) (hr : Kd.C k103 w A t.length t) (he : (checkT t).1 ≠ 0) : Calls Tryz.prog 28 #[.slice A t.length c] w fun e w' => e = .returned (.tuple #[.slice none 0 0, .int .i64 (checkT t).1]) ∧ Below w.heap.size w w' := by
 have hck := xfV t A c w hr
 generalize (checkT t).1 = e1 at he hck
 generalize (checkT t).2 = a1 at hck
 have HC := Aside0.mk hck
 have t0 : (e1 != 0) = true := bne_iff_ne.2 he
 clear hr he hck
 go_enter Tryz.func28, Tryz.ntmps28
 go_wp2_with (go_at_call 45; (with_reducible refine (HC.out).mono ?_); rintro e w1 ⟨rfl, hb⟩; have HB := Aside0.mk hb; clear hb)
 go_ret2
 exact ⟨rfl, HB.out⟩
theorem dflows_ok (t : List S103) (res : List S48 × Int) (hres : res = match runF t [] [] with | .ok p => (p.1, 0) | .error e => ([], e)) (hfit : Fit t 0) (hl : t.length ≤ 1024) (A : Option Addr) (c : Nat) (w : World) (hr : Kd.C k103 w A t.length t) (he : (checkT t).1 = 0) :
  Calls Tryz.prog 28 #[.slice A t.length c] w fun e w' => ∃ A' c', e = .returned (.tuple #[.slice A' res.1.length c', .int .i64 res.2]) ∧ Sl k48 48 w' w.heap.size (fun _ => True) A' c' res.1 ∧ Below w.heap.size w w' := by
 have hck := xfV t A c w hr
 rw [he] at hck
 generalize (checkT t).2 = a1 at hck
 have HRES := Aside0.mk hres;have HCK := Aside0.mk hck;have HR := Aside0.mk hr;have HTL := Aside0.mk hl;have HFIT := Aside0.mk hfit;clear hres hck hr hl hfit he
 go_enter Tryz.func28, Tryz.ntmps28
 go_wp2_with (go_at_call 45; (with_reducible refine (HCK.out).mono ?_); rintro e w1 ⟨rfl, hb⟩; have HB := Aside0.mk hb; clear hb)
 clear HCK
 go_loopg [6, 7, 23] (t.length) (fun kq v6 v7 v23 w' => ∃ (i : Nat) (all : List S48) (fr : List Nat) (Aa : Option Addr) (ca : Nat) (Af : Option Addr) (cf : Nat), i ≤ t.length ∧ kq + i = t.length ∧ v6 = .slice Aa all.length ca ∧ v7 = .slice Af fr.length cf ∧ v23 = .int .i64 i ∧ Aside0 (runF (t.drop i) all fr = runF t [] []) ∧ Aside0 (Fit (t.drop i) fr.length) ∧ Aside0 (Inc fr all.length) ∧ Aside0 (OkW all) ∧ Aside0 (all.length ≤ 4096) ∧ Aside0 (fr.length ≤ i) ∧ Aside0 (Sl k48 48 w' w.heap.size (fun _ => True) Aa ca all) ∧ Aside0 (Sl (Kd.int .i64) 3 w' w.heap.size (fun _ => True) Af cf (asI fr)) ∧ Aside0 (Below w.heap.size w w'))
 case atStart => exact ⟨0, [], [], none, 0, none, 0, by omega, by omega, rfl, rfl, rfl, ⟨rfl⟩, HFIT, ⟨trivial⟩, ⟨OkW.nil⟩, ⟨by decide⟩, ⟨Nat.le_refl _⟩, ⟨Sl.nil _ _ _ _ _⟩, ⟨Sl.nil _ _ _ _ _⟩, ⟨by repeat (first | exact HB.out | apply xaJ | apply xaM)⟩⟩
 case round =>
  clear HB HFIT
  obtain ⟨i, all, fr, Aa, ca, Af, cf, hi, hik, rfl, rfl, rfl, HRUN, HFIT, HINC, HOW, HAL, HFL, HA, HF, HB⟩ := hrel
  by_cases hil : i < t.length
  rotate_left
  ·
   have t3 : decide (i < t.length) = false := decide_eq_false hil
   have e : res = (all, 0) := by rw [HRES.out, ← HRUN.out, List.drop_eq_nil_of_le (by omega), runF]
   have HE := Aside0.mk e;clear e hil
   go_wp2_with (go_at_call 35; (with_reducible refine (xgF _ _ _ _ HA.out.le HA.out.lim).mono ?_); rintro e w7 ⟨rfl, hw_⟩; obtain rfl := hw_.symm)
   go_ret2
   have hs2 := HA.out.head all.length all.length (Nat.le_refl _) (Nat.le_refl _) HA.out.le
   rw [List.take_length] at hs2
   rw [HE.out]
   exact ⟨Aa, all.length, rfl, hs2, HB.out⟩
  have t3 : decide (i < t.length) = true := decide_eq_true hil
  obtain ⟨ad, ee, q0, q1, q2, q3, q4, q5, q6, q7, q8, q9, q10⟩ := xfW (Kd.xbP HR.out HB.out) (i : Int) (by omega) (by omega)
  subst ee
  rw [rd103 hil] at q0 q1 q2 q3 q4 q5 q6 q7 q8 q9 q10
  rw [Int.toNat_natCast] at q0 q1 q2 q3 q4 q5 q6 q7 q8 q9 q10
  have hdrop := List.drop_eq_getElem_cons hil
  obtain ⟨x, hx⟩ : ∃ x, x = t[i] := ⟨_, rfl⟩
  rw [← hx] at q0 q1 q2 q3 q4 q5 q6 q7 q8 q9 q10 hdrop
  have hfit := HFIT.out;have hrun := HRUN.out
  rw [hdrop] at hfit hrun
  have hst := start_ok (n := all.length) hfit HINC.out
  have hgx := hfit.1
  have hz0 : partsP x.f0 = 0 → x.f1 = 0 ∧ x.f2 = 0 := fun h => (hfit.2.1 h).1
  have h1n : partsP x.f0 = 1 → 1 ≤ fr.length := fun h => (hfit.2.2.1 h).1
  have h2n : partsP x.f0 = 2 → 2 ≤ fr.length := fun h => (hfit.2.2.2 h).1
  have HST := Aside0.mk hst;have HGX := Aside0.mk hgx;have HZ0 := Aside0.mk hz0;have H1N := Aside0.mk h1n;have H2N := Aside0.mk h2n;clear HRUN HFIT HINC;have HRUN := Aside0.mk hrun
  have hmx : (i : Int) + 1 ≤ 9223372036854775807 := by have := HTL.out; omega
  clear hst hgx hz0 h1n h2n hrun hfit hdrop hx
  have B9 := Aside0.mk (xbB wr (.cells #[.int .i64 x.f0, .int .i64 x.f1, .int .i64 x.f2, .float .f64 x.f3, .float .f64 x.f4, .int .i64 x.f5, .int .i64 x.f6, .int .i64 x.f7, .int .i64 x.f8, .int .i64 x.f9, .int .i64 x.f10] 103))
  go_upto_region 9 with fail
  replace HA := Aside0.mk (HA.out.below (xaC (Below.refl wr.heap.size wr) (.cells #[.int .i64 x.f0, .int .i64 x.f1, .int .i64 x.f2, .float .f64 x.f3, .float .f64 x.f4, .int .i64 x.f5, .int .i64 x.f6, .int .i64 x.f7, .int .i64 x.f8, .int .i64 x.f9, .int .i64 x.f10] 103)))
  replace HF := Aside0.mk (HF.out.below (xaC (Below.refl wr.heap.size wr) (.cells #[.int .i64 x.f0, .int .i64 x.f1, .int .i64 x.f2, .float .f64 x.f3, .float .f64 x.f4, .int .i64 x.f5, .int .i64 x.f6, .int .i64 x.f7, .int .i64 x.f8, .int .i64 x.f9, .int .i64 x.f10] 103)))
  replace HB := Aside0.mk (xaC HB.out (.cells #[.int .i64 x.f0, .int .i64 x.f1, .int .i64 x.f2, .float .f64 x.f3, .float .f64 x.f4, .int .i64 x.f5, .int .i64 x.f6, .int .i64 x.f7, .int .i64 x.f8, .int .i64 x.f9, .int .i64 x.f10] 103))
  clear q0 q1 q2 q3 q4 q5 q6 q7 q8 q9 q10
  generalize wr.heap.size = g9 at B9 ⊢
  generalize wr.alloc (.cells #[.int .i64 x.f0, .int .i64 x.f1, .int .i64 x.f2, .float .f64 x.f3, .float .f64 x.f4, .int .i64 x.f5, .int .i64 x.f6, .int .i64 x.f7, .int .i64 x.f8, .int .i64 x.f9, .int .i64 x.f10] 103) = W9 at B9 HA HF HB ⊢
  obtain ⟨⟨d0, d1, d2, d3, d4, d5, d6, d7, d8, d9, d10⟩, y_⟩ := blk11 B9
  clear y_
  obtain ⟨m, hm⟩ : ∃ m, m = fr.length := ⟨_, rfl⟩
  have HM := Aside0.mk hm
  rw [← hm]
  clear hm
  go_upto_region 10 with fail
  obtain ⟨s, hs0⟩ : ∃ s, s = all.length := ⟨_, rfl⟩
  rw [show (Value.int .i64 (all.length : Int)) = Value.int .i64 (s : Int) by rw [hs0]]
  have HS0 := Aside0.mk hs0;clear hs0
  rcases xgA x.f0 with hp | hp | hp
  have HPA := Aside0.mk hp
  have HP3 : Aside0 (∀ w, Calls Tryz.prog 47 #[.int .i64 x.f0] w fun e w' => e = .returned (.int .i64 0) ∧ w' = w) := ⟨fun w => by have h := xdL x.f0 w; rw [hp] at h; exact h⟩
  have t5 : (x.f0 == 5) = false := beq_eq_false_iff_ne.2 (fun e => by rw [e] at hp; cases hp)
  have HSF : Aside0 (startF x all.length fr = (s, fr)) := ⟨by unfold startF; rw [if_pos hp, HS0.out]⟩
  clear hp
  focus go_upto_region 16 with (go_at_call 47; (with_reducible refine (HP3.out _).mono ?_); rintro e w' ⟨rfl, hw_⟩; obtain rfl := hw_.symm)
  obtain ⟨fr', hfr⟩ : ∃ fr', fr' = fr := ⟨_, rfl⟩
  subst hfr
  obtain ⟨m', hm'⟩ : ∃ m', m' = m := ⟨_, rfl⟩
  subst hm'
  have HFR : Aside0 (fr'.length ≤ i) := HFL
  have HMM := HM
  rotate_left
  have HPA := Aside0.mk hp
  have HP3 : Aside0 (∀ w, Calls Tryz.prog 47 #[.int .i64 x.f0] w fun e w' => e = .returned (.int .i64 1) ∧ w' = w) := ⟨fun w => by have h := xdL x.f0 w; rw [hp] at h; exact h⟩
  have t5 : (x.f0 == 5) = false := beq_eq_false_iff_ne.2 (fun e => by rw [e] at hp; cases hp)
  rcases fr with _ | ⟨s, fr'⟩
  ·
   exact absurd (H1N.out hp) (by simp)
  have HSF : Aside0 (startF x all.length (s :: fr') = (s, fr')) := ⟨by
   have h5 := beq_eq_false_iff_ne.1 t5
   unfold startF; rw [if_neg (by rw [hp]; decide)]; simp only [h5, if_false]⟩
  have HFR : Aside0 (fr'.length ≤ i) := ⟨by have := HFL.out; rw [List.length_cons] at this; omega⟩
  obtain ⟨ad2, hAf, hcell, hS2, hle2⟩ := pop_int HF.out
  subst hAf
  obtain ⟨m', hm'⟩ : ∃ m', m' = fr'.length := ⟨_, rfl⟩
  rw [← hm'] at hcell hle2
  have hmm : m = m' + 1 := by rw [HM.out, hm', List.length_cons]
  have hwr := cw m m' hmm (by have := HFR.out; have := HTL.out; omega)
  have p1 : m' < m := by omega
  have p2 : m' ≤ cf := by omega
  have HMM := Aside0.mk hm';replace HF := Aside0.mk hS2;clear hm' hmm hS2 hp
  focus go_upto_region 16 with (go_at_call 47; (with_reducible refine (HP3.out _).mono ?_); rintro e w' ⟨rfl, hw_⟩; obtain rfl := hw_.symm)
  clear hcell hwr p1 p2 hle2
  rotate_left
  have HPA := Aside0.mk hp
  have HP3 : Aside0 (∀ w, Calls Tryz.prog 47 #[.int .i64 x.f0] w fun e w' => e = .returned (.int .i64 2) ∧ w' = w) := ⟨fun w => by have h := xdL x.f0 w; rw [hp] at h; exact h⟩
  have t5 : (x.f0 == 5) = true := beq_iff_eq.2 (parts2 hp)
  rcases fr with _ | ⟨s1, _ | ⟨s, fr'⟩⟩
  ·
   exact absurd (H2N.out hp) (by simp)
  ·
   exact absurd (H2N.out hp) (by simp)
  have HSF : Aside0 (startF x all.length (s1 :: s :: fr') = (s, fr')) := ⟨by
   have h5 := beq_iff_eq.1 t5
   unfold startF; rw [if_neg (by rw [hp]; decide)]; simp only [h5, if_true]⟩
  have HFR : Aside0 (fr'.length ≤ i) := ⟨by have := HFL.out; rw [List.length_cons, List.length_cons] at this; omega⟩
  obtain ⟨ad2, hAf, hcell1, hS1, hle1⟩ := pop_int HF.out
  subst hAf
  obtain ⟨ad3, hAf, hcell, hS2, hle2⟩ := pop_int hS1
  injection hAf with hAf
  subst hAf
  rw [List.length_cons] at hcell1 hle1
  obtain ⟨m', hm'⟩ : ∃ m', m' = fr'.length := ⟨_, rfl⟩
  obtain ⟨m1, hm1⟩ : ∃ m1, m1 = fr'.length + 1 := ⟨_, rfl⟩
  rw [← hm1] at hcell1 hle1
  rw [← hm'] at hcell hle2
  have hmm1 : m = m1 + 1 := by rw [HM.out, hm1, List.length_cons, List.length_cons]
  have hmm : m1 = m' + 1 := by rw [hm1, hm']
  have hwr1 := cw m m1 hmm1 (by have := HFR.out; have := HTL.out; omega)
  have hwr := cw m1 m' hmm (by have := HFR.out; have := HTL.out; omega)
  have p0 : m1 < m := by omega
  have p1 : m' < m1 := by omega
  have p2 : m1 ≤ cf := by omega
  have p3 : m' ≤ cf := by omega
  have HMM := Aside0.mk hm';replace HF := Aside0.mk hS2;clear hm' hm1 hmm hmm1 hS1 hS2 hp
  focus go_upto_region 16 with (go_at_call 47; (with_reducible refine (HP3.out _).mono ?_); rintro e w' ⟨rfl, hw_⟩; obtain rfl := hw_.symm)
  clear hcell hcell1 hwr hwr1 p0 p1 p2 p3 hle1 hle2
  rotate_left
  all_goals
   have hst := HST.out
   rw [HSF.out] at hst
   simp only at hst
   obtain ⟨hs1, hs2, hs3⟩ := hst
   have hrun := HRUN.out
   rw [xhJ _ _ _ _ _ _ HSF.out] at hrun
   have HRUN2 := Aside0.mk hrun;have HINC2 := Aside0.mk hs2;have HFIT2 := Aside0.mk hs3
   have hmo := meant_ok (x := x) (l := all.drop s) (room := 4096 - (all.length : Int)) HGX.out (HOW.out.sub (fun f hf => List.mem_of_mem_drop hf)) (by have := HAL.out; omega)
   have hca := HA.out.le;have HCA := Aside0.mk hca;have HMO := Aside0.mk hmo;have HS1 := Aside0.mk hs1
   have hwn : wrap64 (4096 - (all.length : Int)) = 4096 - (all.length : Int) := L.w64 (by have := HAL.out; omega) (by have := HAL.out; omega)
   have HWN := Aside0.mk hwn;clear hrun hs2 hs3 hmo hwn HST HRUN d0 d1 d2 d3 d4 d5 d6 d7 d8 d9 d10
   have hS : ∀ w', Below W9.heap.size W9 w' → (fun w' : World => w'.cell? ⟨g9, 0, none⟩ = some (.int .i64 x.f0) ∧ w'.cell? ⟨g9, 1, none⟩ = some (.int .i64 x.f1) ∧ w'.cell? ⟨g9, 2, none⟩ = some (.int .i64 x.f2) ∧ w'.cell? ⟨g9, 3, none⟩ = some (.float .f64 x.f3) ∧ w'.cell? ⟨g9, 4, none⟩ = some (.float .f64 x.f4) ∧ w'.cell? ⟨g9, 5, none⟩ = some (.int .i64 x.f5) ∧ w'.cell? ⟨g9, 6, none⟩ = some (.int .i64 x.f6) ∧ w'.cell? ⟨g9, 7, none⟩ = some (.int .i64 x.f7) ∧ w'.cell? ⟨g9, 8, none⟩ = some (.int .i64 x.f8) ∧ w'.cell? ⟨g9, 9, none⟩ = some (.int .i64 x.f9) ∧ w'.cell? ⟨g9, 10, none⟩ = some (.int .i64 x.f10)) w' := fun w' hb => by
    have hbo := xaK B9.out hb
    exact ⟨(xaA hbo 0).trans rfl, (xaA hbo 1).trans rfl, (xaA hbo 2).trans rfl, (xaA hbo 3).trans rfl, (xaA hbo 4).trans rfl, (xaA hbo 5).trans rfl, (xaA hbo 6).trans rfl, (xaA hbo 7).trans rfl, (xaA hbo 8).trans rfl, (xaA hbo 9).trans rfl, (xaA hbo 10).trans rfl⟩
   refine start_ (n := 13) (S := fun w' : World => w'.cell? ⟨g9, 0, none⟩ = some (.int .i64 x.f0) ∧ w'.cell? ⟨g9, 1, none⟩ = some (.int .i64 x.f1) ∧ w'.cell? ⟨g9, 2, none⟩ = some (.int .i64 x.f2) ∧ w'.cell? ⟨g9, 3, none⟩ = some (.float .f64 x.f3) ∧ w'.cell? ⟨g9, 4, none⟩ = some (.float .f64 x.f4) ∧ w'.cell? ⟨g9, 5, none⟩ = some (.int .i64 x.f5) ∧ w'.cell? ⟨g9, 6, none⟩ = some (.int .i64 x.f6) ∧ w'.cell? ⟨g9, 7, none⟩ = some (.int .i64 x.f7) ∧ w'.cell? ⟨g9, 8, none⟩ = some (.int .i64 x.f8) ∧ w'.cell? ⟨g9, 9, none⟩ = some (.int .i64 x.f9) ∧ w'.cell? ⟨g9, 10, none⟩ = some (.int .i64 x.f10)) (ds := []) #[false, false, false, false, false, false, false, false, false, false, false, false, false] (by kernel_rfl) rfl rfl (hS _ (xaM (Below.refl _ _))) (fun hHeld => ?_)
   refine rT 0 ?_
   refine rP 1 ?_
   refine rP 2 ?_
   refine rP 3 ?_
   refine rP 4 ?_
   refine rP 5 ?_
   refine rP 6 ?_
   refine rO 7 (fun K hK => ?_)
   refine goes_ Tryz.func48 (by kernel_rfl) rfl #[.agg #[.int .i64 x.f0, .int .i64 x.f1, .int .i64 x.f2, .float .f64 x.f3, .float .f64 x.f4, .int .i64 x.f5, .int .i64 x.f6, .int .i64 x.f7, .int .i64 x.f8, .int .i64 x.f9, .int .i64 x.f10], .slice (if ca = s then Aa else Aa.map (fun x => x.add (s * 3))) (all.length - s) (ca - s), .int .i64 (wrap64 (4096 - (all.length : Int)))] (by rfl) rfl rfl (by (try simp only [List.map_toArray, List.map_cons, List.map_nil]); first | done | rfl) ?_
   rw [HWN.out]
   have hdc := Kd.C_drop (Kd.xbP HA.out.C (xaM (Below.refl W9.heap.size W9))) HS1.out HCA.out
   have hdl : (all.drop s).length = all.length - s := List.length_drop
   have hmc := meant_c x (all.drop s) (4096 - (all.length : Int)) (if ca = s then Aa else Aa.map (fun x => x.add (s * 3))) (ca - s) W9.drew HGX.out HZ0.out hdc (by have := HAL.out; omega) (HOW.out.sub (fun f hf => List.mem_of_mem_drop hf)) (by have := HAL.out; omega)
   rw [hdl] at hmc
   refine hmc.mono ?_
   clear hmc hdc hdl
   rintro e w5 ⟨A', c', rfl, hcr, hb⟩
   refine ⟨_, rfl, ?_⟩
   have hb5 : Below W9.heap.size W9 w5 := (xaM (Below.refl W9.heap.size W9)).trans hb
   refine hK.out _ _ (hS _ hb5) (fun hHeld => ?_)
   clear hK K hHeld
   refine rN ?_
   refine rP 8 ?_
   refine rP 9 ?_
   refine rP 10 ?_
   refine rP 11 ?_
   refine rP 12 ?_
   refine rD ?_
   have HCR := Aside0.mk hcr
   replace HA := Aside0.mk (HA.out.below hb5)
   replace HF := Aside0.mk (HF.out.below hb5)
   replace HB := Aside0.mk (HB.out.trans (hb5.mono HB.out.size))
   clear hcr hb hb5 hS B9
   generalize (if ca = s then Aa else Aa.map (fun x => x.add (s * 3))) = A62
   have HLD : Aside0 ((all.drop s).length = all.length - s) := ⟨List.length_drop⟩
   generalize meantF x (all.drop s) (4096 - (all.length : Int)) = r at HMO HRUN2 HCR ⊢
   obtain ⟨rl, re⟩ := r
   by_cases hre : re = 0
   ·
    subst hre;have hmo := HMO.out rfl;have HRW := Aside0.mk hmo.1
    have HRL : Aside0 (s + rl.length ≤ 4096) := ⟨by have h1 := hmo.2; have h2 := HAL.out; have h3 := HS1.out; have h4 := HLD.out; simp only at h1; omega⟩
    have HR8 : Aside0 (((all.take s).length + rl.length) * 24 ≤ 140737488355328) := ⟨by rw [List.length_take]; have := HRL.out; have := HS1.out; omega⟩
    have HT8 : Aside0 ((all.take s).length = s) := ⟨by rw [List.length_take]; have := HS1.out; omega⟩
    have HF8 : Aside0 (((asI fr').length + 1) * 8 ≤ 140737488355328) := ⟨by rw [xgZ]; have := HFR.out; have := HTL.out; omega⟩
    have HAF8 : Aside0 ((asI fr').length = m') := ⟨by rw [xgZ]; exact HMM.out.symm⟩
    clear hmo HMO;have hs1 := HS1.out;have hca := HCA.out
    have hsc : s ≤ ca := by omega
    go_wp2_with (first | ((with_reducible refine xaR (b := .append) (xs := #[.tmp 75, .tmp 76]) rfl ?_); go_loud (refine Sl.xcZ rfl (.tmp 75) (.tmp 76) 24 (.agg #[.int .i64 0, .float .f64 0, .int .i64 0]) 24 rfl Tryz.underlying24 info48 rfl (by decide) (by omega) (xs := all.take s) (c := s) (ys := rl) (by rw [HT8.out]; rfl) rfl (HA.out.head s s hs1 (Nat.le_refl _) hsc) HCR.out HB.out.size HR8.out ?_; intro A5 c5 w6 ho hf _; have HF1 := Aside0.mk (Sl.keep HF.out HA.out (by decide) hf); have HB1 := Aside0.mk (HB.out.trans (hf.xcW HB.out.size (fun k hk => (HA.out.own_bd k hk).1))); have HA1 := Aside0.mk (ho.mono (G := fun _ => True) (fun _ _ _ => trivial)); clear ho hf)) | ((with_reducible refine xaR (b := .append) (xs := #[.tmp 78, .tmp 80]) rfl ?_); go_loud (refine Sl.xcZ rfl (.tmp 78) (.tmp 80) 49 (.int .i64 0) 8 rfl Tryz.underlying49 info3 rfl (by decide) (by omega) (xs := asI fr') (ys := [(s : Int)]) (by rw [HAF8.out]; rfl) rfl (HF1.out.below (xaC (Below.refl _ _) _)) (lit_C (d := Kd.int .i64) (cs := [.int .i64 (s : Int)]) rfl) (xaC HB1.out _).size HF8.out ?_; intro A7 c7 w7 ho hf _; have HA2 := Aside0.mk (Sl.keep (HA1.out.below (xaC (Below.refl _ _) _)) (HF1.out.below (xaC (Below.refl _ _) _)) (by decide) hf); have HB2 := Aside0.mk ((xaC HB1.out _).trans (hf.xcW (xaC HB1.out _).size (fun k hk => (HF1.out.own_bd k hk).1))); have HF2 := Aside0.mk (ho.mono (G := fun _ => True) (fun _ _ _ => trivial)); clear ho hf)))
    have HRUN3 : Aside0 (runF (t.drop (i + 1)) (all.take s ++ rl) (s :: fr') = runF t [] []) := ⟨by have h := HRUN2.out; rw [if_pos True.intro] at h; exact h⟩
    clear hs1 hca hsc
    go_roundg (gk - 1)
    case measure => omega
    case rel => exact ⟨i + 1, all.take s ++ rl, s :: fr', A5, c5, A7, c7, by omega, by omega, by rw [List.length_append, HT8.out], by rw [List.length_cons, ← HMM.out, HAF8.out], by go_num, HRUN3, HFIT2, ⟨⟨by rw [List.length_append, HT8.out]; omega, HINC2.out⟩⟩, ⟨(HOW.out.sub (fun f hf => List.mem_of_mem_take hf)).app HRW.out⟩, ⟨by rw [List.length_append, HT8.out]; exact HRL.out⟩, ⟨by rw [List.length_cons]; have := HFR.out; omega⟩, HA2, ⟨by rw [asI_cons]; exact HF2.out⟩, HB2⟩
   ·
    have t9 : (re != 0) = true := bne_iff_ne.2 hre
    have e : res = ([], re) := by
     have h := HRUN2.out
     rw [if_neg hre] at h
     rw [HRES.out, ← h]
    have HE := Aside0.mk e;clear hre e
    go_wp2_with fail
    go_ret2
    rw [HE.out]
    exact ⟨none, 0, rfl, Sl.nil _ _ _ _ _, HB.out⟩
theorem dflows_c (t : List S103) (hg : (checkT t).1 = 0 → ∀ x ∈ t, GoodT x) (A : Option Addr) (c : Nat) (w : World) (hr : Kd.C k103 w A t.length t) :
  Calls Tryz.prog 28 #[.slice A t.length c] w fun e w' => ∃ A' c', e = .returned (.tuple #[.slice A' (flowsD t).1.length c', .int .i64 (flowsD t).2]) ∧ Sl k48 48 w' w.heap.size (fun _ => True) A' c' (flowsD t).1 ∧ Below w.heap.size w w' := by
 by_cases he : (checkT t).1 = 0
 ·
  obtain ⟨T, hlay, _, _, hl⟩ := check_lay he
  refine dflows_ok t (flowsD t) (by unfold flowsD; rw [if_pos he]; cases runF t [] [] <;> rfl) ?_ hl A c w hr he
  have h := fit_lay hlay (hg he) [] 0 trivial
  rw [List.append_nil] at h
  exact h
 ·
  have e : flowsD t = ([], (checkT t).1) := by unfold flowsD; rw [if_neg he]
  rw [e]
  refine (dflows_bad t A c w hr he).mono ?_
  rintro e w' ⟨rfl, hb⟩
  exact ⟨none, 0, rfl, Sl.nil _ _ _ _ _, hb⟩
mutual
theorem codeP_wf : ∀ (p : PT), WfG fixF p → ∀ o ∈ codeP p, o.f1 < 18446744073709551616
 | .mk o ps, hw => by
  have hM : opM.f1 < 18446744073709551616 := by decide
  intro q hq
  rw [codeP] at hq
  cases hw with
  | add _ h hg =>
   rw [if_pos ((xbV _).2 h), List.nil_append] at hq
   rw [List.mem_singleton.1 hq]; exact hg.wf
  | take _ _ h hg hp =>
   rw [if_neg (fun h2 => by have := (xbV o.f0).1 h2; omega)] at hq
   rcases List.mem_append.1 hq with hq | hq
   ·
    rcases List.mem_cons.1 hq with rfl | hq
    ·
     exact hM
    ·
     exact codeL_wf ps hp q hq
   ·
    rw [List.mem_singleton.1 hq]; exact hg.wf
theorem codeL_wf : ∀ (l : List PT), (∀ p ∈ l, WfG fixF p) → ∀ o ∈ codeL l, o.f1 < 18446744073709551616
 | [], hw => by intro o ho; rw [codeL] at ho; cases ho
 | p :: r, hw => by
  intro o ho
  rw [codeL] at ho
  rcases List.mem_append.1 ho with ho | ho
  ·
   exact codeP_wf p (hw p (List.mem_cons_self ..)) o ho
  ·
   exact codeL_wf r (fun q hq => hw q (List.mem_cons_of_mem _ hq)) o ho
end
section
variable (t : List S103) (A : Option Addr) (c : Nat) (w : World)
theorem deals_long (hk : KT w) (hl : 100 < t.length) : Calls Tryz.prog 8 #[.slice A t.length c] w fun e w' => e = .returned (.bool true) ∧ Below w.heap.size w w' := by
 have HK := Aside0.mk hk
 have HB := Aside0.mk (Below.refl w.heap.size w)
 have t1 : decide ((t.length : Int) > 100) = true := decide_eq_true (by omega)
 clear hk hl
 go_enter Tryz.func8, Tryz.ntmps8
 go_wp2_with (go_at_call 9; (with_reducible refine (awake_c _ (HK.out.below HB.out)).mono ?_); rintro e w6 ⟨rfl, hb⟩; replace HB := Aside0.mk (HB.out.trans (hb.mono HB.out.size)); clear hb)
 go_ret
 exact ⟨rfl, HB.out⟩
theorem deals_bad (hk : KT w) (hr : Kd.C k103 w A t.length t) (he : (checkT t).1 ≠ 0) (hl : t.length ≤ 100) : Calls Tryz.prog 8 #[.slice A t.length c] w fun e w' => e = .returned (.bool true) ∧ Below w.heap.size w w' := by
 have hc := compile_bad t A c w hr he
 have hf := fun w hr => dflows_bad t A c w hr he
 generalize (checkT t).1 = e1 at he hc hf
 have HC := Aside0.mk hc;have HF := Aside0.mk hf;have HK := Aside0.mk hk;have HR := Aside0.mk hr
 have t0 : (e1 != 0) = true := bne_iff_ne.2 he
 have t1 : decide ((t.length : Int) > 100) = false := decide_eq_false (by omega)
 have t2 : (e1 == e1) = true := beq_self_eq_true _
 clear hc hf hk hr he hl
 go_enter Tryz.func8, Tryz.ntmps8
 go_wp2_with (first | (go_at_call 27; (with_reducible refine (HC.out).mono ?_); rintro e w1 ⟨rfl, hb⟩; have HB := Aside0.mk hb; clear hb) | (go_at_call 28; (with_reducible refine (HF.out _ (Kd.xbP HR.out HB.out)).mono ?_); rintro e w2 ⟨rfl, hb⟩; replace HB := Aside0.mk (HB.out.trans (hb.mono HB.out.size)); clear hb) | (go_at_call 9; (with_reducible refine (awake_c _ (HK.out.below HB.out)).mono ?_); rintro e w6 ⟨rfl, hb⟩; replace HB := Aside0.mk (HB.out.trans (hb.mono HB.out.size)); clear hb))
 go_ret
 exact ⟨rfl, HB.out⟩
theorem deals_ok (hk : KT w) (hr : Kd.C k103 w A t.length t) (he : (checkT t).1 = 0) (hw : ∀ x ∈ t, x.f3 < 18446744073709551616) (hl : t.length ≤ 100) : Calls Tryz.prog 8 #[.slice A t.length c] w fun e w' => e = .returned (.bool true) ∧ Below w.heap.size w w' := by
 have hf := xgH he
 have hgt : ∀ x ∈ t, GoodT x := fun x hx => ⟨hf x hx, hw x hx⟩
 obtain ⟨T, hlay, hdeep, _, hl2⟩ := check_lay he
 obtain ⟨hc0, hcl⟩ := tree_chk hlay hgt hdeep hl2
 have hcw := codeL_wf (pcs T) (pcs_wf hlay hgt)
 have hcomp := compile_ok t T hlay hl2 hf A c w hk hr he
 have hfl := fun w hr => dflows_c t (fun _ => hgt) A c w hr
 rw [flows_law he hlay hgt (by omega) (chk (codeL (pcs T))).2.1] at hfl
 generalize codeL (pcs T) = L at hc0 hcl hcw hcomp hfl
 obtain ⟨b, hb, hcb, hwb, _⟩ := forest hc0 hcw
 obtain ⟨hg, _⟩ := xfG hc0
 have hll : (runT fixF (0, (chk L).2.1) L).1.length ≤ 4096 := by
  have h := (run_inv (fxs := fixF) 8193 (st0 L) hg (inv0 L)).1.ok.len
  unfold runT
  rw [if_pos rfl]
  unfold stepM
  rw [show (st0 L).ended = false from rfl, if_neg (by decide), if_neg (by omega)]
  unfold flowsT
  split
  ·
   split
   ·
    exact h
   ·
    exact Nat.zero_le _
  ·
   exact Nat.zero_le _
 have ht := fun A w hk hr => trim_ok L A L.length w b hb (by rw [hcb]; omega) hk hr hc0 hcw
 obtain ⟨tl1, tl2, tl3⟩ := trim_law hc0 hcb hwb (chk (codeL (trL b))).2.1 (chk L).2.1
 have hrun := fun A w hk hr => run_ok (c := L.length) (w := w) (A := A) hk fixF hr (ck_chk L) (fun _ => hg)
 have hg2 := (xfG tl1).1
 generalize hcs : codeL (trL b) = s at ht tl1 tl2 tl3 hg2
 have hrun2 := fun A2 w hk hr => run_ok (c := s.length) (w := w) (A := A2) hk fixF hr (ck_chk s) (fun _ => hg2)
 rw [hc0] at hrun
 rw [tl1] at hrun2
 rw [tl3] at hrun2
 generalize runT fixF (0, (chk L).2.1) L = res at hrun hrun2 hll hfl
 obtain ⟨lw, fw⟩ := res
 simp only at hrun hrun2 hll hfl
 have HC := Aside0.mk hcomp;have HF := Aside0.mk hfl;have HT := Aside0.mk ht;have HRUN := Aside0.mk hrun;have HRUN2 := Aside0.mk hrun2;have HK := Aside0.mk hk;have HR := Aside0.mk hr;have HLL := Aside0.mk hll
 have t1 : decide ((t.length : Int) > 100) = false := decide_eq_false (by omega)
 have t2 : (fw == fw) = true := beq_self_eq_true _
 clear hcomp hfl ht hrun hrun2 hk hr he hl hb hcb hwb hg hgt tl1 tl2 tl3 hg2 hcs hw hll hf hlay hdeep hl2 hc0 hcl hcw
 go_enter Tryz.func8, Tryz.ntmps8
 go_upto_region 4 with (go_at_call 27; (with_reducible refine (HC.out).mono ?_); rintro e w1 ⟨A1, rfl, hs, hb⟩; have HL := Aside0.mk hs; have HB := Aside0.mk hb; clear hs hb)
 clear HC
 go_upto_region 5 with (go_at_call 28; (with_reducible refine (HF.out _ (Kd.xbP HR.out HB.out)).mono ?_); rintro e w2 ⟨Aa, ca, rfl, hs, hb⟩; have HA := Aside0.mk hs; replace HL := Aside0.mk (HL.out.below hb); replace HB := Aside0.mk (HB.out.trans (hb.mono HB.out.size)); clear hs hb)
 clear HF
 go_upto_region 8 with (go_at_call 10; (with_reducible refine (HRUN.out _ _ (HK.out.below HB.out) HL.out.C).mono ?_); rintro e w3 ⟨Aw, cw, rfl, hs, hb⟩; have HW := Aside0.mk hs; replace HA := Aside0.mk (HA.out.below hb); replace HL := Aside0.mk (HL.out.below hb); replace HB := Aside0.mk (HB.out.trans (hb.mono HB.out.size)); clear hs hb)
 clear HRUN
 go_upto_region 9 with (go_at_call 26; (with_reducible refine (HT.out _ _ (HK.out.below HB.out) HL.out.C).mono ?_); rintro e w4 ⟨As, rfl, hs, hb⟩; have HS := Aside0.mk hs; replace HA := Aside0.mk (HA.out.below hb); replace HW := Aside0.mk (HW.out.below hb); replace HB := Aside0.mk (HB.out.trans (hb.mono HB.out.size)); clear hs hb)
 clear HT
 go_upto_region 10 with (go_at_call 10; (with_reducible refine (HRUN2.out _ _ (HK.out.below HB.out) HS.out.C).mono ?_); rintro e w5 ⟨Av, cv, rfl, hs, hb⟩; have HV := Aside0.mk hs; replace HA := Aside0.mk (HA.out.below hb); replace HW := Aside0.mk (HW.out.below hb); replace HB := Aside0.mk (HB.out.trans (hb.mono HB.out.size)); clear hs hb)
 clear HRUN2
 go_wp2_with (first | (go_at_call 25; (with_reducible refine (of_c _ _ _ _ HW.out.C HLL.out HW.out.le).mono ?_); rintro e w7 ⟨v, rfl, hr, hb⟩; obtain ⟨A4, c4, rfl, hs4⟩ := Sl.of_R hr; rw [List.length_map]; have HO := Aside0.mk hs4; replace HA := Aside0.mk (HA.out.below hb); replace HV := Aside0.mk (HV.out.below hb); replace HW := Aside0.mk (HW.out.below hb); replace HB := Aside0.mk (HB.out.trans (hb.mono HB.out.size)); clear hr hs4 hb) | (go_at_call 13; (first | (with_reducible refine (same_c _ _ _ _ _ _ HA.out.C (by have h := HO.out.C; rwa [List.length_map] at h) HLL.out).mono ?_) | (with_reducible refine (same_c _ _ _ _ _ _ HV.out.C (by have h := HO.out.C; rwa [List.length_map] at h) HLL.out).mono ?_)); rintro e w8 ⟨rfl, hb⟩; replace HA := Aside0.mk (HA.out.below hb); replace HV := Aside0.mk (HV.out.below hb); replace HW := Aside0.mk (HW.out.below hb); replace HB := Aside0.mk (HB.out.trans (hb.mono HB.out.size)); clear hb) | (go_at_call 9; (with_reducible refine (awake_c _ (HK.out.below HB.out)).mono ?_); rintro e w6 ⟨rfl, hb⟩; replace HB := Aside0.mk (HB.out.trans (hb.mono HB.out.size)); clear hb))
 go_ret
 exact ⟨rfl, HB.out⟩
theorem deals_all (hk : KT w) (hr : Kd.C k103 w A t.length t) (hw : ∀ x ∈ t, x.f3 < 18446744073709551616) : Calls Tryz.prog 8 #[.slice A t.length c] w fun e w' => e = .returned (.bool true) ∧ Below w.heap.size w w' := by
 by_cases hl : 100 < t.length
 ·
  exact deals_long t A c w hk hl
 ·
  by_cases he : (checkT t).1 = 0
  ·
   exact deals_ok t A c w hk hr he hw (by omega)
  ·
   exact deals_bad t A c w hk hr he (by omega)
end
end Go.Proofs.YtkabcgmegljebaaGreatDoor.H
namespace Go.Proofs.YtkabcgmegljebaaGreatDoor.O
open Go.ChangeShapes Go.WideShapes Go.ChangeAt Go.RowKit Go.Deep Go.Joins
open Go.Proofs.YtkabcgmegljebaaGreatDoorW.PrintWords
open Go.Proofs.YtkabcgmegljebaaGreatDoor.Q
theorem cells103 : Tryz.prog.cellsOf 103 = 11 := by kernel_rfl
variable {K : Type} {enc : TypeId × Value → K} {W : World}
theorem term_cells {n : Nat} {cs : List Value} {x : DataW K × List MemPlace} (h : DataW.trod enc Tryz.prog W 0 (fun _ => true) true n 103 cs = some x) (hl : cs.length = 11) :
  ∃ e : S103, cs = [.int .i64 e.f0, .int .i64 e.f1, .int .i64 e.f2, .float .f64 e.f3, .float .f64 e.f4, .int .i64 e.f5, .int .i64 e.f6, .int .i64 e.f7, .int .i64 e.f8, .int .i64 e.f9, .int .i64 e.f10] ∧ e.f3 < 18446744073709551616 ∧ e.f4 < 18446744073709551616 := by
 obtain ⟨ys, n', _, _, _, hyl, hf⟩ := DataW.trod_struct Tryz.underlying103 h
 have pick : ∀ (j : Nat) (f : Field), j < 11 → (match Tryz.prog.underlying 103 with | some (.struct fs) => fs[j]? | _ => none) = some f → ∃ y, DataW.trod enc Tryz.prog W 0 (fun _ => true) true n' f.type [cs.getD j undef] = some y := by
  intro j f hj hfj
  rw [Tryz.underlying103] at hfj
  obtain ⟨ho, hk⟩ := hone_of (P := Tryz.prog) (by kernel_rfl) j f hfj
  have h1 := hf j f hfj
  rw [ho, hk] at h1
  have e1 : (cs.drop j).take 1 = [cs.getD j undef] := by rw [List.drop_eq_getElem_cons (by omega), List.getD_eq_getElem?_getD, List.getElem?_eq_getElem (by omega)]; rfl
  rw [e1] at h1
  have hy : ys[j]? = some (ys[j]'(by rw [hyl]; exact (Array.getElem?_eq_some_iff.1 hfj).1)) := List.getElem?_eq_getElem _
  exact ⟨_, h1.trans hy⟩
 have key : ∀ (j : Nat) (f : Field), j < 11 → (match Tryz.prog.underlying 103 with | some (.struct fs) => fs[j]? | _ => none) = some f → f.type = 3 → ∃ a, cs.getD j undef = .int .i64 a := by
  intro j f hj hfj ht
  obtain ⟨y, hy⟩ := pick j f hj hfj
  rw [ht] at hy
  obtain ⟨a, e0, _, _⟩ := DataW.trod_int Tryz.underlying3 hy
  exact ⟨a, (List.cons.inj e0).1⟩
 have keyF : ∀ (j : Nat) (f : Field), j < 11 → (match Tryz.prog.underlying 103 with | some (.struct fs) => fs[j]? | _ => none) = some f → f.type = 35 → ∃ a, cs.getD j undef = .float .f64 a ∧ a < 18446744073709551616 := by
  intro j f hj hfj ht
  obtain ⟨y, hy⟩ := pick j f hj hfj
  rw [ht] at hy
  obtain ⟨a, e0, hwf⟩ := trodF Tryz.underlying35 hy
  exact ⟨a, (List.cons.inj e0).1, of_decide_eq_true hwf⟩
 obtain ⟨a0, e0⟩ := key 0 _ (by omega) (by rw [Tryz.underlying103]; rfl) rfl
 obtain ⟨a1, e1⟩ := key 1 _ (by omega) (by rw [Tryz.underlying103]; rfl) rfl
 obtain ⟨a2, e2⟩ := key 2 _ (by omega) (by rw [Tryz.underlying103]; rfl) rfl
 obtain ⟨a3, e3, b3⟩ := keyF 3 _ (by omega) (by rw [Tryz.underlying103]; rfl) rfl
 obtain ⟨a4, e4, b4⟩ := keyF 4 _ (by omega) (by rw [Tryz.underlying103]; rfl) rfl
 obtain ⟨a5, e5⟩ := key 5 _ (by omega) (by rw [Tryz.underlying103]; rfl) rfl
 obtain ⟨a6, e6⟩ := key 6 _ (by omega) (by rw [Tryz.underlying103]; rfl) rfl
 obtain ⟨a7, e7⟩ := key 7 _ (by omega) (by rw [Tryz.underlying103]; rfl) rfl
 obtain ⟨a8, e8⟩ := key 8 _ (by omega) (by rw [Tryz.underlying103]; rfl) rfl
 obtain ⟨a9, e9⟩ := key 9 _ (by omega) (by rw [Tryz.underlying103]; rfl) rfl
 obtain ⟨a10, e10⟩ := key 10 _ (by omega) (by rw [Tryz.underlying103]; rfl) rfl
 refine ⟨⟨a0, a1, a2, a3, a4, a5, a6, a7, a8, a9, a10⟩, ?_, b3, b4⟩
 match cs, hl with
 | [c0, c1, c2, c3, c4, c5, c6, c7, c8, c9, c10], _ =>
  obtain rfl : c0 = _ := e0
  obtain rfl : c1 = _ := e1
  obtain rfl : c2 = _ := e2
  obtain rfl : c3 = _ := e3
  obtain rfl : c4 = _ := e4
  obtain rfl : c5 = _ := e5
  obtain rfl : c6 = _ := e6
  obtain rfl : c7 = _ := e7
  obtain rfl : c8 = _ := e8
  obtain rfl : c9 = _ := e9
  obtain rfl : c10 = _ := e10
  rfl
theorem terms_open {n : Nat} {v : Value} {x : DataW K × List MemPlace} (h : DataW.trod enc Tryz.prog W 0 (fun _ => true) true n 70 [v] = some x) :
  ∃ (A : Option Addr) (c : Nat) (l : List S103), v = .slice A l.length c ∧ l.length ≤ c ∧ Kd.C k103 W A l.length l  ∧ ∀ o ∈ l, o.f3 < 18446744073709551616 ∧ o.f4 < 18446744073709551616 := by
 rcases open_slice Tryz.underlying70 h with ⟨hcs, _⟩ | ⟨a, len, cap, m, n', D, Pl, hcs, _, hl, hm, hmm, _, hel⟩
 ·
  injection hcs with hcs
  exact ⟨none, 0, [], hcs, Nat.le_refl _, ⟨rfl, by simp, fun h => absurd h (by simp)⟩, fun o ho => (by cases ho)⟩
 ·
  injection hcs with hcs
  rw [if_pos rfl] at hmm
  subst hmm
  have key : ∀ i, i < len → ∃ e : S103, (e.f3 < 18446744073709551616 ∧ e.f4 < 18446744073709551616) ∧ ∀ j u, [Value.int .i64 e.f0, .int .i64 e.f1, .int .i64 e.f2, .float .f64 e.f3, .float .f64 e.f4, .int .i64 e.f5, .int .i64 e.f6, .int .i64 e.f7, .int .i64 e.f8, .int .i64 e.f9, .int .i64 e.f10][j]? = some u → W.cell? (a.add (i * 11 + j)) = some u := by
   intro i hi
   obtain ⟨cs', hc, ht⟩ := hel i (by omega)
   rw [cells103] at hc
   obtain ⟨_, hcl, hat⟩ := World.cells?_some hc
   obtain ⟨e, he, hb⟩ := term_cells ht hcl
   refine ⟨e, hb, fun j u hj => ?_⟩
   rw [← he] at hj
   have hjl : j < 11 := by have := (List.getElem?_eq_some_iff.1 hj).1; omega
   have hcell := hat j hjl
   rw [← Go.Deep.add_add, hcell, hj]
  let g : Nat → S103 := fun i => if hi : i < len then Classical.choose (key i hi) else z103
  have hg : ∀ i (hi : i < len), g i = Classical.choose (key i hi) := fun i hi => dif_pos hi
  have hlen : ((List.range len).map g).length = len := by simp
  have hmax : maxLen = 9223372036854775807 := rfl
  refine ⟨some a, m, (List.range len).map g, by rw [hlen]; exact hcs, by rw [hlen]; exact hl, ⟨rfl, by rw [hlen]; omega, fun _ => ⟨a, rfl, fun j p hp => ?_⟩⟩, fun o ho => ?_⟩
  rotate_left
  ·
   obtain ⟨j, hj, rfl⟩ := List.mem_map.1 ho
   have hj := List.mem_range.1 hj
   have hs := Classical.choose_spec (key j hj)
   rw [← hg j hj] at hs
   exact hs.1
  have hj : j < len := by have := (List.getElem?_eq_some_iff.1 hp).1; rw [hlen] at this; exact this
  have hp' : g j = p := by
   have := hp
   rw [List.getElem?_map, List.getElem?_range hj] at this
   exact Option.some.inj this
  have hs := Classical.choose_spec (key j hj)
  rw [← hg j hj, hp'] at hs
  exact ⟨_, rfl, xgV W p, fun i u hu => hs.2 i u hu⟩
theorem terms_arg {r : Reach} {b0 : Nat} {v : Value} {d : DataW K} {p : List MemPlace} (hv : Value.okWide Tryz.prog W r b0 70 v) (h : DataW.Trod enc Tryz.prog W 0 (fun _ => true) true 70 v d p) :
  ∃ (A : Option Addr) (c : Nat) (l : List S103), v = .slice A l.length c ∧ l.length ≤ c ∧ Kd.C k103 W A l.length l  ∧ ∀ o ∈ l, o.f3 < 18446744073709551616 ∧ o.f4 < 18446744073709551616 := by
 obtain ⟨m, hm⟩ := h
 rw [arg_cells Tryz.underlying70 hv] at hm
 exact terms_open hm
end Go.Proofs.YtkabcgmegljebaaGreatDoor.O
