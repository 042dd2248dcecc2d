/- Contracts and facts of functions of the program, joined in one text. -/
import Derived.Test.YtkabcgmegljebaaGreatDoorRGA
import Derived.Test.YtkabcgmegljebaaGreatDoorRGH
set_option maxHeartbeats 8000000
set_option maxRecDepth 100000
set_option linter.unusedVariables false
set_option linter.unusedSimpArgs false
namespace Go.Proofs.YtkabcgmegljebaaGreatDoor.D
open Go.RowKit Go.Proofs.YtkabcgmegljebaaGreatDoorW.PrintWords Go.Proofs.YtkabcgmegljebaaGreatDoorW.PrintLast Go.Proofs.YtkabcgmegljebaaGreatDoorW.PrintMore
open Go.Proofs.YtkabcgmegljebaaGreatDoor.Q Go.Proofs.YtkabcgmegljebaaGreatDoor.H
theorem put3_o {w : World} {b g : Nat} {o : Option Obj} (x0 x1 x2 : Value) (h : w.heap[g]? = o) (hne : g ≠ b) : (((w.setCell ⟨b, 0, none⟩ x0).setCell ⟨b, 1, none⟩ x1).setCell ⟨b, 2, none⟩ x2).heap[g]? = o := by
  rw [Below.heap_setCell _ ⟨b, 2, none⟩ x2 g hne, Below.heap_setCell _ ⟨b, 1, none⟩ x1 g hne, Below.heap_setCell _ ⟨b, 0, none⟩ x0 g hne, h]
theorem thirty_c (kind a b : Int) (w : World) (ha : 0 ≤ a ∧ a ≤ 109572) (hb : 0 ≤ b ∧ b ≤ 109572) : Calls Tryz.prog 128 #[.int .i64 kind, .int .i64 a, .int .i64 b] w fun e w' => e = .returned (.int .i64 (N.thirty (decide (kind = 5)) a b)) ∧ Below w.heap.size w w' := by
 have HB : xaA (Below w.heap.size w w) := ⟨Below.refl _ _⟩
 have HC1 : xaA (∀ w, Calls Tryz.prog 136 #[.int .i64 a] w fun e w' => e = .returned (.tuple #[.agg #[.int .i64 (M.civY a), .int .i64 (M.civM a), .int .i64 (M.civD a)], .int .i64 0]) ∧ Below w.heap.size w w') := ⟨fun w => xiG a w ha⟩
 have HC2 : xaA (∀ w, Calls Tryz.prog 136 #[.int .i64 b] w fun e w' => e = .returned (.tuple #[.agg #[.int .i64 (M.civY b), .int .i64 (M.civM b), .int .i64 (M.civD b)], .int .i64 0]) ∧ Below w.heap.size w w') := ⟨fun w => xiG b w hb⟩
 obtain ⟨T, hT⟩ : ∃ T, T = N.thirty (decide (kind = 5)) a b := ⟨_, rfl⟩
 rw [← hT]
 unfold N.thirty at hT
 clear ha hb
 generalize M.civY a = Y1 at *
 generalize M.civM a = M1 at *
 generalize M.civD a = D1 at *
 generalize M.civY b = Y2 at *
 generalize M.civM b = M2 at *
 generalize M.civD b = D2 at *
 have k1 : (kind == 5) = decide (kind = 5) := by rw [Bool.eq_iff_iff, beq_iff_eq, decide_eq_true_eq]
 have HT := am hT;clear hT
 go_enter Tryz.func128, Tryz.ntmps128
 go_upto_region 2 with (first | (go_at_call 136; go_loud ((with_reducible refine (HC1.out _).mono ?_); rintro x w2 ⟨rfl, hb⟩; replace HB := am (xaC HB.out hb); clear hb)) | ((with_reducible refine xaJ (N := 7) rfl ?_); refine bxv 7 #[.int .i64 0, .int .i64 0, .int .i64 0] 198 ?_; intro g hg w3 hbox hb; have Bg := am hbox; have HBg := HB; replace HB := am (xaC HB.out hb); have HGg := am hg; have HLg := am (xaM hbox); clear hb hbox hg; have hgb : xaA (w.heap.size ≤ g) := ⟨by have h1 := HGg.out; have h2 := HBg.out.size; omega⟩; have cg_ := cz3 Bg))
 clear cg_
 have B3 := am (put3 (.int .i64 Y1) (.int .i64 M1) (.int .i64 D1) Bg.out)
 have HB3 : xaA (Below w.heap.size w (((w3.setCell ⟨g, 0, none⟩ (.int .i64 Y1)).setCell ⟨g, 1, none⟩ (.int .i64 M1)).setCell ⟨g, 2, none⟩ (.int .i64 D1))) := ⟨xaF (xaF (xaF HB.out hgb.out) hgb.out) hgb.out⟩
 clear Bg HB
 generalize (((w3.setCell ⟨g, 0, none⟩ (.int .i64 Y1)).setCell ⟨g, 1, none⟩ (.int .i64 M1)).setCell ⟨g, 2, none⟩ (.int .i64 D1)) = w4 at *
 have Bg := B3;have HB := HB3;clear B3 HB3
 skip
 go_upto_region 3 with (first | (go_at_call 136; go_loud ((with_reducible refine (HC2.out _).mono ?_); rintro x w5 ⟨rfl, hb⟩; replace HB := am (xaC HB.out hb); replace Bg := am (xaD Bg.out hb); clear hb; have hlg := am (xaM Bg.out))) | ((with_reducible refine xaJ (N := 9) rfl ?_); refine bxv 9 #[.int .i64 0, .int .i64 0, .int .i64 0] 198 ?_; intro r hg w6 hbox hb; have Br := am hbox; replace Bg := am (xaD Bg.out hb); have HBr := HB; replace HB := am (xaC HB.out hb); have HGr := am hg; have HLr := am (xaM hbox); clear hb hbox hg; have hrb : xaA (w.heap.size ≤ r) := ⟨by have h1 := HGr.out; have h2 := HBr.out.size; omega⟩; have cr_ := cz3 Br))
 clear cr_
 have hgr : g ≠ r := by have h1 := HGr.out; have h2 := hlg.out; omega
 have B3 := am (put3 (.int .i64 Y2) (.int .i64 M2) (.int .i64 D2) Br.out)
 have HB3 : xaA (Below w.heap.size w (((w6.setCell ⟨r, 0, none⟩ (.int .i64 Y2)).setCell ⟨r, 1, none⟩ (.int .i64 M2)).setCell ⟨r, 2, none⟩ (.int .i64 D2))) := ⟨xaF (xaF (xaF HB.out hrb.out) hrb.out) hrb.out⟩
 replace Bg := am (put3_o (.int .i64 Y2) (.int .i64 M2) (.int .i64 D2) Bg.out hgr)
 clear Br HB
 generalize (((w6.setCell ⟨r, 0, none⟩ (.int .i64 Y2)).setCell ⟨r, 1, none⟩ (.int .i64 M2)).setCell ⟨r, 2, none⟩ (.int .i64 D2)) = w7 at *
 have Br := B3;have HB := HB3;clear B3 HB3;have cg_ := ce3 Bg;have cr_ := ce3 Br
 skip
 generalize decide (kind = 5) = k5 at *
 by_cases h1 : 30 < D1
 ·
  have t1 : decide (30 < D1) = true := decide_eq_true h1
  cases k5
  ·
   by_cases h2 : 30 < D2
   ·
    have t2 : decide (30 < D2) = true := decide_eq_true h2
    have hv : T = wrap64 (wrap64 (wrap64 (wrap64 (360 * wrap64 (Y2 - Y1)) + wrap64 (30 * wrap64 (M2 - M1))) + 30) - 30) := by rw [HT.out]; unfold mn; simp [h1, h2]
    clear HT
    go_wp2_with fail
    go_ret
    exact ⟨by first | rfl | (rw [hv]; rfl), HB.out⟩
   ·
    have t2 : decide (30 < D2) = false := decide_eq_false h2
    have hv : T = wrap64 (wrap64 (wrap64 (wrap64 (360 * wrap64 (Y2 - Y1)) + wrap64 (30 * wrap64 (M2 - M1))) + D2) - 30) := by rw [HT.out]; unfold mn; simp [h1, h2]
    clear HT
    go_wp2_with fail
    go_ret
    exact ⟨by first | rfl | (rw [hv]; rfl), HB.out⟩
  ·
   by_cases h2 : 30 < D2
   ·
    have t2 : decide (30 < D2) = true := decide_eq_true h2
    have hv : T = wrap64 (wrap64 (wrap64 (wrap64 (360 * wrap64 (Y2 - Y1)) + wrap64 (30 * wrap64 (M2 - M1))) + 30) - 30) := by rw [HT.out]; unfold mn; simp [h1, h2]
    clear HT
    go_wp2_with fail
    go_ret
    exact ⟨by first | rfl | (rw [hv]; rfl), HB.out⟩
   ·
    have t2 : decide (30 < D2) = false := decide_eq_false h2
    have hv : T = wrap64 (wrap64 (wrap64 (wrap64 (360 * wrap64 (Y2 - Y1)) + wrap64 (30 * wrap64 (M2 - M1))) + D2) - 30) := by rw [HT.out]; unfold mn; simp [h1, h2]
    clear HT
    go_wp2_with fail
    go_ret
    exact ⟨by first | rfl | (rw [hv]; rfl), HB.out⟩
 ·
  have t1 : decide (30 < D1) = false := decide_eq_false h1
  by_cases h3 : D1 = 30
  ·
   subst h3
   cases k5
   ·
    by_cases h2 : 30 < D2
    ·
     have t2 : decide (30 < D2) = true := decide_eq_true h2
     have hv : T = wrap64 (wrap64 (wrap64 (wrap64 (360 * wrap64 (Y2 - Y1)) + wrap64 (30 * wrap64 (M2 - M1))) + 30) - 30) := by rw [HT.out]; unfold mn; simp [h2]
     clear HT
     go_wp2_with fail
     go_ret
     exact ⟨by first | rfl | (rw [hv]; rfl), HB.out⟩
    ·
     have t2 : decide (30 < D2) = false := decide_eq_false h2
     have hv : T = wrap64 (wrap64 (wrap64 (wrap64 (360 * wrap64 (Y2 - Y1)) + wrap64 (30 * wrap64 (M2 - M1))) + D2) - 30) := by rw [HT.out]; unfold mn; simp [h2]
     clear HT
     go_wp2_with fail
     go_ret
     exact ⟨by first | rfl | (rw [hv]; rfl), HB.out⟩
   ·
    by_cases h2 : 30 < D2
    ·
     have t2 : decide (30 < D2) = true := decide_eq_true h2
     have hv : T = wrap64 (wrap64 (wrap64 (wrap64 (360 * wrap64 (Y2 - Y1)) + wrap64 (30 * wrap64 (M2 - M1))) + 30) - 30) := by rw [HT.out]; unfold mn; simp [h2]
     clear HT
     go_wp2_with fail
     go_ret
     exact ⟨by first | rfl | (rw [hv]; rfl), HB.out⟩
    ·
     have t2 : decide (30 < D2) = false := decide_eq_false h2
     have hv : T = wrap64 (wrap64 (wrap64 (wrap64 (360 * wrap64 (Y2 - Y1)) + wrap64 (30 * wrap64 (M2 - M1))) + D2) - 30) := by rw [HT.out]; unfold mn; simp [h2]
     clear HT
     go_wp2_with fail
     go_ret
     exact ⟨by first | rfl | (rw [hv]; rfl), HB.out⟩
  ·
   have t3 : (D1 == 30) = false := beq_eq_false_iff_ne.2 h3
   cases k5
   ·
    have hv : T = wrap64 (wrap64 (wrap64 (wrap64 (360 * wrap64 (Y2 - Y1)) + wrap64 (30 * wrap64 (M2 - M1))) + D2) - D1) := by rw [HT.out]; unfold mn; simp [h1, h3]
    clear HT
    go_wp2_with fail
    go_ret
    exact ⟨by first | rfl | (rw [hv]; rfl), HB.out⟩
   ·
    by_cases h2 : 30 < D2
    ·
     have t2 : decide (30 < D2) = true := decide_eq_true h2
     have hv : T = wrap64 (wrap64 (wrap64 (wrap64 (360 * wrap64 (Y2 - Y1)) + wrap64 (30 * wrap64 (M2 - M1))) + 30) - D1) := by rw [HT.out]; unfold mn; simp [h1, h3, h2]
     clear HT
     go_wp2_with fail
     go_ret
     exact ⟨by first | rfl | (rw [hv]; rfl), HB.out⟩
    ·
     have t2 : decide (30 < D2) = false := decide_eq_false h2
     have hv : T = wrap64 (wrap64 (wrap64 (wrap64 (360 * wrap64 (Y2 - Y1)) + wrap64 (30 * wrap64 (M2 - M1))) + D2) - D1) := by rw [HT.out]; unfold mn; simp [h1, h3, h2]
     clear HT
     go_wp2_with fail
     go_ret
     exact ⟨by first | rfl | (rw [hv]; rfl), HB.out⟩
structure AcI (a0 b y a o : Int) : Prop where
 ha : 0 ≤ a0 ∧ a0 ≤ a
 hb : a ≤ b ∧ b ≤ 109572
 ho : o = N.act a - N.act a0
 hy : 1900 ≤ y
 hr : a < b → y ≤ 2199 ∧ M.before y ≤ a ∧ a < M.before (y + 1)
theorem ac_start {a b : Int} (ha : 0 ≤ a) (hab : a ≤ b) (hb : b ≤ 109572) : AcI a b (M.civY a) a 0 := by
  obtain ⟨c1, c2, c3, c4⟩ := N.xgS (n := a) ⟨ha, by omega⟩
  exact ⟨⟨ha, Int.le_refl _⟩, ⟨hab, hb⟩, by omega, c1, fun _ => ⟨c2, c3, c4⟩⟩
theorem xkR {a0 b y a o e m k : Int} (h : AcI a0 b y a o) (hlt : a < b) (he : e = M.before (y + 1)) (hm : m = b ∧ b < e ∨ m = e ∧ ¬ b < e) (hk : k = if M.leap y = true then 365 else 366) :
  ∃ n p o2 y2 : Int, IntKind.i64.wrap (m - a) = n ∧ IntKind.i64.wrap (k * n) = p ∧ IntKind.i64.wrap (o + p) = o2 ∧ IntKind.i64.wrap (a + n) = m ∧ IntKind.i64.wrap (y + 1) = y2 ∧ AcI a0 b y2 m o2 ∧ (b - m).toNat < (b - a).toNat := by
 obtain ⟨⟨h1, h2⟩, ⟨h3, h4⟩, h5, h6, h7⟩ := h
 obtain ⟨h8, h9, h10⟩ := h7 hlt
 have q1 : M.before y ≤ m ∧ m ≤ M.before (y + 1) := by omega
 have q2 : a < m ∧ m ≤ b := by omega
 have l1 := N.leaps_y h6 (n := a) (by omega) h9 (by omega)
 have l2 := N.leaps_y h6 (n := m) (by omega) q1.1 q1.2
 have lr := fun n (hn : 0 ≤ n ∧ n ≤ 109572) => N.xfF hn
 have r1 := lr a (by omega)
 have r0 := lr a0 (by omega)
 have rm := lr m (by omega)
 have hd : k * (m - a) = N.act m - N.act a := by
  unfold N.act
  rw [l1, l2, hk]
  unfold N.ly
  cases M.leap y
  ·
   rw [if_neg (by decide), if_neg (by decide), if_neg (by decide)]; omega
  ·
   rw [if_pos rfl, if_pos rfl, if_pos rfl]; omega
 have hk2 : k = 365 ∨ k = 366 := by rw [hk]; split <;> omega
 have hb : M.before (y + 1 + 1) = M.before (y + 1) + 365 + M.lp (y + 1) := M.xcF (y + 1)
 have hlp := M.lp_01 (y + 1)
 have b22 := M.xdH
 refine ⟨m - a, k * (m - a), o + k * (m - a), y + 1, ?_, ?_, ?_, ?_, ?_, ⟨⟨h1, by omega⟩, ⟨q2.2, h4⟩, by rw [hd]; omega, by omega, fun hh => ?_⟩, by omega⟩
 ·
  rw [i64_w]; unfold wrap64; omega
 ·
  rw [i64_w]; unfold wrap64; rcases hk2 with e | e <;> rw [e] <;> omega
 ·
  rw [hd, h5, i64_w]; unfold N.act wrap64; omega
 ·
  rw [i64_w]; unfold wrap64; omega
 ·
  rw [i64_w]; unfold wrap64; omega
 ·
  have hme : m = M.before (y + 1) := by omega
  refine ⟨?_, by omega, by omega⟩
  rcases Int.lt_or_le 2199 (y + 1) with hy | hy
  ·
   have e : y = 2199 := by omega
   rw [e] at hme
   have : m = 109573 := by rw [hme]; exact b22
   omega
  ·
   exact hy
theorem of_jan {y : Int} (h : 1900 ≤ y ∧ y ≤ 2198) (w : World) : Calls Tryz.prog 139 #[.int .i64 (y + 1), .int .i64 1, .int .i64 1] w fun e w' => e = .returned (.tuple #[.int .i64 (M.before (y + 1)), .int .i64 0]) ∧ w' = w := by
 have hl := M.xdE (y + 1) 1
 have h1 := ofOk_c (y + 1) 1 1 w ⟨by omega, by omega, by omega, by omega, by omega, by omega⟩
 have e : M.dayOf (y + 1) 1 1 = M.before (y + 1) := by unfold M.dayOf; rw [M.cum_1]; omega
 rwa [e] at h1
theorem actual_c (a b : Int) (w : World) (ha : 0 ≤ a) (hab : a ≤ b) (hb : b ≤ 109572) : Calls Tryz.prog 126 #[.int .i64 a, .int .i64 b] w fun e w' => e = .returned (.int .i64 (N.act b - N.act a)) ∧ Below w.heap.size w w' := by
 have HB : xaA (Below w.heap.size w w) := ⟨Below.refl _ _⟩
 have HC1 : xaA (∀ w, Calls Tryz.prog 136 #[.int .i64 a] w fun e w' => e = .returned (.tuple #[.agg #[.int .i64 (M.civY a), .int .i64 (M.civM a), .int .i64 (M.civD a)], .int .i64 0]) ∧ Below w.heap.size w w') := ⟨fun w => xiG a w ⟨ha, by omega⟩⟩
 have HI := am (ac_start ha hab hb)
 have HLE : xaA (∀ i w, 0 ≤ i → Calls Tryz.prog 152 #[.int .i64 i] w fun e w' => e = .returned (.bool (M.leap i)) ∧ w' = w) := ⟨fun i w h => leap_c i w h⟩
 clear ha hab hb
 generalize M.civY a = Y1 at *
 generalize M.civM a = M1 at *
 generalize M.civD a = D1 at *
 obtain ⟨a0, hA⟩ : ∃ a0, a0 = a := ⟨_, rfl⟩
 rw [show AcI a b Y1 a 0 = AcI a0 b Y1 a 0 by rw [hA]] at HI
 rw [show N.act a = N.act a0 by rw [hA]]
 clear hA
 go_enter Tryz.func126, Tryz.ntmps126
 go_upto_region 2 with (first | (go_at_call 136; go_loud ((with_reducible refine (HC1.out _).mono ?_); rintro x w2 ⟨rfl, hb⟩; replace HB := am (xaC HB.out hb); clear hb)) | ((with_reducible refine xaJ (N := 5) rfl ?_); refine bxv 5 #[.int .i64 0, .int .i64 0, .int .i64 0] 198 ?_; intro g hg w3 hbox hb; have Bg := am hbox; have HBg := HB; replace HB := am (xaC HB.out hb); have HGg := am hg; have HLg := am (xaM hbox); clear hb hbox hg; have hgb : xaA (w.heap.size ≤ g) := ⟨by have h1 := HGg.out; have h2 := HBg.out.size; omega⟩; have cg_ := cz3 Bg))
 clear cg_
 have B3 := am (put3 (.int .i64 Y1) (.int .i64 M1) (.int .i64 D1) Bg.out)
 have HB3 : xaA (Below w.heap.size w (((w3.setCell ⟨g, 0, none⟩ (.int .i64 Y1)).setCell ⟨g, 1, none⟩ (.int .i64 M1)).setCell ⟨g, 2, none⟩ (.int .i64 D1))) := ⟨xaF (xaF (xaF HB.out hgb.out) hgb.out) hgb.out⟩
 clear Bg HB
 generalize (((w3.setCell ⟨g, 0, none⟩ (.int .i64 Y1)).setCell ⟨g, 1, none⟩ (.int .i64 M1)).setCell ⟨g, 2, none⟩ (.int .i64 D1)) = w4 at *
 have Bg := B3;have HB := HB3;clear B3 HB3;have cg_ := ce3 Bg
 go_wp2_with fail
 skip
 clear cg_
 go_loopg [0, 7, 8] (b - a).toNat (fun kq v0 v7 v8 w' => ∃ c o y : Int, kq = (b - c).toNat ∧ v0 = .int .i64 c ∧ v7 = .int .i64 o ∧ v8 = .int .i64 y ∧ xaA (AcI a0 b y c o) ∧ w' = w4)
 case atStart => exact ⟨a, 0, Y1, rfl, rfl, rfl, rfl, HI, rfl⟩
 case round =>
  obtain ⟨c, o, y, hk, rfl, rfl, rfl, HS, rfl⟩ := hrel
  by_cases hlt : c < b
  ·
   have t1 : decide (c < b) = true := decide_eq_true hlt
   obtain ⟨hy1, hy2, hy3⟩ := HS.out.hr hlt
   have hy0 := HS.out.hy
   have t2 : decide (y ≤ 2199) = true := decide_eq_true hy1
   obtain ⟨lb, hlb⟩ : ∃ lb, M.leap y = lb := ⟨_, rfl⟩
   have HL : xaA (∀ w, Calls Tryz.prog 152 #[.int .i64 y] w fun e w' => e = .returned (.bool lb) ∧ w' = w) := ⟨fun w => by rw [← hlb]; exact HLE.out y w (by omega)⟩
   obtain ⟨e, he⟩ : ∃ e, e = M.before (y + 1) := ⟨_, rfl⟩
   by_cases hbe : b < e
   ·
    have t3 : decide (b < e) = true := decide_eq_true hbe
    have hm : b = b ∧ b < e ∨ b = e ∧ ¬ b < e := Or.inl ⟨rfl, hbe⟩
    cases lb
    ·
     obtain ⟨n, p, o2, y2, a1, a2, a3, a4, a5, hi, hmeas⟩ := xkR (k := 366) HS.out hlt he hm (by rw [hlb]; rfl)
     have HI2 := am hi
     have HME := am (show _ < gk by rw [hk]; exact hmeas)
     have a1' : wrap64 (b - c) = n := by rw [← i64_w]; exact a1
     clear hi hmeas hlb hk hlt hy1 hy2 hy3 hm
     by_cases h99 : y = 2199
     ·
      have HO : xaA (∀ w, Calls Tryz.prog 139 #[.int .i64 y2, .int .i64 1, .int .i64 1] w fun e w' => e = .returned (.tuple #[.int .i64 0, .int .i64 50]) ∧ w' = w) := ⟨fun w => by rw [← a5, h99]; exact xkA 1 1 w⟩
      have he9 : e = 109573 := by rw [he, h99]; exact M.xdH
      subst he9;clear h99 he hy0
      go_wp2_with (first | (go_at_call 139; go_loud ((with_reducible refine (HO.out _).mono ?_); rintro x w5 ⟨rfl, hw_⟩; obtain rfl := hw_.symm)) | (go_at_call 152; go_loud ((with_reducible refine (HL.out _).mono ?_); rintro x w5 ⟨rfl, hw_⟩; obtain rfl := hw_.symm)))
      go_roundg (b - b).toNat
      case measure => exact HME.out
      case rel => exact ⟨_, _, _, rfl, by first | rfl | simp only [← i64_w, a1, a4], by first | rfl | simp only [← i64_w, a1, a2, a3], by first | rfl | rw [a5], HI2, rfl⟩
     ·
      have HO : xaA (∀ w, Calls Tryz.prog 139 #[.int .i64 y2, .int .i64 1, .int .i64 1] w fun e' w' => e' = .returned (.tuple #[.int .i64 e, .int .i64 0]) ∧ w' = w) := ⟨fun w => by
       have h2 : y2 = y + 1 := by rw [← a5, i64_w]; unfold wrap64; have := HS.out.hy; have := HS.out.hr (of_decide_eq_true t1); omega
       rw [h2, he]; exact of_jan ⟨hy0, by have := HS.out.hr (of_decide_eq_true t1); omega⟩ w⟩
      clear h99 he hy0
      go_wp2_with (first | (go_at_call 139; go_loud ((with_reducible refine (HO.out _).mono ?_); rintro x w5 ⟨rfl, hw_⟩; obtain rfl := hw_.symm)) | (go_at_call 152; go_loud ((with_reducible refine (HL.out _).mono ?_); rintro x w5 ⟨rfl, hw_⟩; obtain rfl := hw_.symm)))
      go_roundg (b - b).toNat
      case measure => exact HME.out
      case rel => exact ⟨_, _, _, rfl, by first | rfl | simp only [← i64_w, a1, a4], by first | rfl | simp only [← i64_w, a1, a2, a3], by first | rfl | rw [a5], HI2, rfl⟩
    ·
     obtain ⟨n, p, o2, y2, a1, a2, a3, a4, a5, hi, hmeas⟩ := xkR (k := 365) HS.out hlt he hm (by rw [hlb]; rfl)
     have HI2 := am hi
     have HME := am (show _ < gk by rw [hk]; exact hmeas)
     have a1' : wrap64 (b - c) = n := by rw [← i64_w]; exact a1
     clear hi hmeas hlb hk hlt hy1 hy2 hy3 hm
     by_cases h99 : y = 2199
     ·
      have HO : xaA (∀ w, Calls Tryz.prog 139 #[.int .i64 y2, .int .i64 1, .int .i64 1] w fun e w' => e = .returned (.tuple #[.int .i64 0, .int .i64 50]) ∧ w' = w) := ⟨fun w => by rw [← a5, h99]; exact xkA 1 1 w⟩
      have he9 : e = 109573 := by rw [he, h99]; exact M.xdH
      subst he9;clear h99 he hy0
      go_wp2_with (first | (go_at_call 139; go_loud ((with_reducible refine (HO.out _).mono ?_); rintro x w5 ⟨rfl, hw_⟩; obtain rfl := hw_.symm)) | (go_at_call 152; go_loud ((with_reducible refine (HL.out _).mono ?_); rintro x w5 ⟨rfl, hw_⟩; obtain rfl := hw_.symm)))
      go_roundg (b - b).toNat
      case measure => exact HME.out
      case rel => exact ⟨_, _, _, rfl, by first | rfl | simp only [← i64_w, a1, a4], by first | rfl | simp only [← i64_w, a1, a2, a3], by first | rfl | rw [a5], HI2, rfl⟩
     ·
      have HO : xaA (∀ w, Calls Tryz.prog 139 #[.int .i64 y2, .int .i64 1, .int .i64 1] w fun e' w' => e' = .returned (.tuple #[.int .i64 e, .int .i64 0]) ∧ w' = w) := ⟨fun w => by
       have h2 : y2 = y + 1 := by rw [← a5, i64_w]; unfold wrap64; have := HS.out.hy; have := HS.out.hr (of_decide_eq_true t1); omega
       rw [h2, he]; exact of_jan ⟨hy0, by have := HS.out.hr (of_decide_eq_true t1); omega⟩ w⟩
      clear h99 he hy0
      go_wp2_with (first | (go_at_call 139; go_loud ((with_reducible refine (HO.out _).mono ?_); rintro x w5 ⟨rfl, hw_⟩; obtain rfl := hw_.symm)) | (go_at_call 152; go_loud ((with_reducible refine (HL.out _).mono ?_); rintro x w5 ⟨rfl, hw_⟩; obtain rfl := hw_.symm)))
      go_roundg (b - b).toNat
      case measure => exact HME.out
      case rel => exact ⟨_, _, _, rfl, by first | rfl | simp only [← i64_w, a1, a4], by first | rfl | simp only [← i64_w, a1, a2, a3], by first | rfl | rw [a5], HI2, rfl⟩
   ·
    have t3 : decide (b < e) = false := decide_eq_false hbe
    have hm : e = b ∧ b < e ∨ e = e ∧ ¬ b < e := Or.inr ⟨rfl, hbe⟩
    cases lb
    ·
     obtain ⟨n, p, o2, y2, a1, a2, a3, a4, a5, hi, hmeas⟩ := xkR (k := 366) HS.out hlt he hm (by rw [hlb]; rfl)
     have HI2 := am hi
     have HME := am (show _ < gk by rw [hk]; exact hmeas)
     have a1' : wrap64 (e - c) = n := by rw [← i64_w]; exact a1
     clear hi hmeas hlb hk hlt hy1 hy2 hy3 hm
     by_cases h99 : y = 2199
     ·
      have HO : xaA (∀ w, Calls Tryz.prog 139 #[.int .i64 y2, .int .i64 1, .int .i64 1] w fun e w' => e = .returned (.tuple #[.int .i64 0, .int .i64 50]) ∧ w' = w) := ⟨fun w => by rw [← a5, h99]; exact xkA 1 1 w⟩
      have he9 : e = 109573 := by rw [he, h99]; exact M.xdH
      subst he9;clear h99 he hy0
      go_wp2_with (first | (go_at_call 139; go_loud ((with_reducible refine (HO.out _).mono ?_); rintro x w5 ⟨rfl, hw_⟩; obtain rfl := hw_.symm)) | (go_at_call 152; go_loud ((with_reducible refine (HL.out _).mono ?_); rintro x w5 ⟨rfl, hw_⟩; obtain rfl := hw_.symm)))
      go_roundg (b - 109573).toNat
      case measure => exact HME.out
      case rel => exact ⟨_, _, _, rfl, by first | rfl | simp only [← i64_w, a1, a4], by first | rfl | simp only [← i64_w, a1, a2, a3], by first | rfl | rw [a5], HI2, rfl⟩
     ·
      have HO : xaA (∀ w, Calls Tryz.prog 139 #[.int .i64 y2, .int .i64 1, .int .i64 1] w fun e' w' => e' = .returned (.tuple #[.int .i64 e, .int .i64 0]) ∧ w' = w) := ⟨fun w => by
       have h2 : y2 = y + 1 := by rw [← a5, i64_w]; unfold wrap64; have := HS.out.hy; have := HS.out.hr (of_decide_eq_true t1); omega
       rw [h2, he]; exact of_jan ⟨hy0, by have := HS.out.hr (of_decide_eq_true t1); omega⟩ w⟩
      clear h99 he hy0
      go_wp2_with (first | (go_at_call 139; go_loud ((with_reducible refine (HO.out _).mono ?_); rintro x w5 ⟨rfl, hw_⟩; obtain rfl := hw_.symm)) | (go_at_call 152; go_loud ((with_reducible refine (HL.out _).mono ?_); rintro x w5 ⟨rfl, hw_⟩; obtain rfl := hw_.symm)))
      go_roundg (b - e).toNat
      case measure => exact HME.out
      case rel => exact ⟨_, _, _, rfl, by first | rfl | simp only [← i64_w, a1, a4], by first | rfl | simp only [← i64_w, a1, a2, a3], by first | rfl | rw [a5], HI2, rfl⟩
    ·
     obtain ⟨n, p, o2, y2, a1, a2, a3, a4, a5, hi, hmeas⟩ := xkR (k := 365) HS.out hlt he hm (by rw [hlb]; rfl)
     have HI2 := am hi
     have HME := am (show _ < gk by rw [hk]; exact hmeas)
     have a1' : wrap64 (e - c) = n := by rw [← i64_w]; exact a1
     clear hi hmeas hlb hk hlt hy1 hy2 hy3 hm
     by_cases h99 : y = 2199
     ·
      have HO : xaA (∀ w, Calls Tryz.prog 139 #[.int .i64 y2, .int .i64 1, .int .i64 1] w fun e w' => e = .returned (.tuple #[.int .i64 0, .int .i64 50]) ∧ w' = w) := ⟨fun w => by rw [← a5, h99]; exact xkA 1 1 w⟩
      have he9 : e = 109573 := by rw [he, h99]; exact M.xdH
      subst he9;clear h99 he hy0
      go_wp2_with (first | (go_at_call 139; go_loud ((with_reducible refine (HO.out _).mono ?_); rintro x w5 ⟨rfl, hw_⟩; obtain rfl := hw_.symm)) | (go_at_call 152; go_loud ((with_reducible refine (HL.out _).mono ?_); rintro x w5 ⟨rfl, hw_⟩; obtain rfl := hw_.symm)))
      go_roundg (b - 109573).toNat
      case measure => exact HME.out
      case rel => exact ⟨_, _, _, rfl, by first | rfl | simp only [← i64_w, a1, a4], by first | rfl | simp only [← i64_w, a1, a2, a3], by first | rfl | rw [a5], HI2, rfl⟩
     ·
      have HO : xaA (∀ w, Calls Tryz.prog 139 #[.int .i64 y2, .int .i64 1, .int .i64 1] w fun e' w' => e' = .returned (.tuple #[.int .i64 e, .int .i64 0]) ∧ w' = w) := ⟨fun w => by
       have h2 : y2 = y + 1 := by rw [← a5, i64_w]; unfold wrap64; have := HS.out.hy; have := HS.out.hr (of_decide_eq_true t1); omega
       rw [h2, he]; exact of_jan ⟨hy0, by have := HS.out.hr (of_decide_eq_true t1); omega⟩ w⟩
      clear h99 he hy0
      go_wp2_with (first | (go_at_call 139; go_loud ((with_reducible refine (HO.out _).mono ?_); rintro x w5 ⟨rfl, hw_⟩; obtain rfl := hw_.symm)) | (go_at_call 152; go_loud ((with_reducible refine (HL.out _).mono ?_); rintro x w5 ⟨rfl, hw_⟩; obtain rfl := hw_.symm)))
      go_roundg (b - e).toNat
      case measure => exact HME.out
      case rel => exact ⟨_, _, _, rfl, by first | rfl | simp only [← i64_w, a1, a4], by first | rfl | simp only [← i64_w, a1, a2, a3], by first | rfl | rw [a5], HI2, rfl⟩
  ·
   have t1 : decide (c < b) = false := decide_eq_false hlt
   have hcb : c = b := by have := HS.out.hb; omega
   have HO : xaA (N.act b - N.act a0 = o) := ⟨by rw [HS.out.ho, hcb]⟩
   clear hk hlt hcb HS
   by_cases hy : y ≤ 2199
   ·
    have t2 : decide (y ≤ 2199) = true := decide_eq_true hy
    clear hy
    go_wp2_with fail
    go_ret
    exact ⟨by rw [HO.out]; first | done | rfl, HB.out⟩
   ·
    have t2 : decide (y ≤ 2199) = false := decide_eq_false hy
    clear hy
    go_wp2_with fail
    go_ret
    exact ⟨by rw [HO.out]; first | done | rfl, HB.out⟩
end Go.Proofs.YtkabcgmegljebaaGreatDoor.D
