/- Contracts and facts of functions of the program, joined in one text. -/
import Derived.Test.YtkabcgmegljebaaGreatDoorRGA
import Derived.Test.YtkabcgmegljebaaGreatDoorRGB
import Derived.Test.YtkabcgmegljebaaGreatDoorRGC
import Derived.Test.YtkabcgmegljebaaGreatDoorRGD
import Derived.OwnWalk
set_option maxHeartbeats 8000000
set_option maxRecDepth 100000
set_option linter.unusedVariables false
set_option linter.unusedSimpArgs false
namespace Go.Proofs.YtkabcgmegljebaaGreatDoor.D
open Go.RowKit Go.Proofs.YtkabcgmegljebaaGreatDoorW.PrintWords Go.Proofs.YtkabcgmegljebaaGreatDoorW.PrintLast Go.Proofs.YtkabcgmegljebaaGreatDoorW.PrintMore
open Go.Proofs.YtkabcgmegljebaaGreatDoor.Q Go.Proofs.YtkabcgmegljebaaGreatDoor.H
theorem civ_facts1 {n y r : Int} (hn : 0 ≤ n ∧ n ≤ 109572) (hy : 1900 ≤ y ∧ y ≤ M.civY n) (hr : r = n - M.before y) : ∃ k r2 j : Int, k = 365 + M.lp y ∧ (r < k → y = M.civY n) ∧ (¬ r < k → y < M.civY n ∧ r2 = n - M.before (y + 1)) ∧ IntKind.i64.wrap (r - k) = r2 ∧ j = y + 1 ∧ IntKind.i64.wrap (y + 1) = j := by
 have h1 := M.xcF y;have h2 := M.lp_01 y
 obtain ⟨c1, c2, c3, c4⟩ := M.xdF n hn.1 hn.2
 have h3 := M.xcY (a := y) (b := M.civY n) hy.2
 have h4 := M.xcY (a := 1900) (b := y) hy.1
 rw [M.xdU] at h4
 have c3' : M.before (M.civY n) ≤ n := c3
 have c2' : M.civY n ≤ 2199 := c2
 refine ⟨_, r - (365 + M.lp y), _, rfl, fun h => ?_, fun h => ⟨?_, by omega⟩, ?_, rfl, ?_⟩
 ·
  rcases Int.lt_or_le y (M.civY n) with h5 | h5
  ·
   have h6 := M.xcY (a := y + 1) (b := M.civY n) (by omega); omega
  ·
   omega
 ·
  rcases Int.lt_or_le y (M.civY n) with h5 | h5
  ·
   exact h5
  ·
   have e : y = M.civY n := by omega
   have c4' : n < M.before (M.civY n + 1) := c4
   rw [← e] at c4'; omega
 ·
  rw [i64_w]; unfold wrap64; omega
 ·
  rw [i64_w]; unfold wrap64; omega
theorem civ_facts2 {y d m r : Int} (hd : 0 ≤ d ∧ d < 365 + M.lp y) (hm : 1 ≤ m ∧ m ≤ M.monOf y d) (hr : r = d - M.cum y m) : ∃ l r2 j : Int, l = M.mlen y m ∧ (r < l → m = M.monOf y d) ∧ (¬ r < l → m < M.monOf y d ∧ r2 = d - M.cum y (m + 1)) ∧ IntKind.i64.wrap (r - l) = r2 ∧ j = m + 1 ∧ IntKind.i64.wrap (m + 1) = j := by
 obtain ⟨c1, c2, c3, c4⟩ := M.xeC y d hd.1 hd.2
 have h1 := M.xeY y m hm.1 (by omega)
 have h2 := M.lp_01 y;have h3 := M.xdE y m;have h4 := M.xgR y m
 refine ⟨_, r - M.mlen y m, _, rfl, fun h => ?_, fun h => ⟨?_, by omega⟩, ?_, rfl, ?_⟩
 ·
  rcases Int.lt_or_le m (M.monOf y d) with h5 | h5
  ·
   have h6 := M.cum_le y (a := m + 1) (b := M.monOf y d) (by omega) (by omega) (by omega); omega
  ·
   omega
 ·
  rcases Int.lt_or_le m (M.monOf y d) with h5 | h5
  ·
   exact h5
  ·
   have e : m = M.monOf y d := by omega
   rw [← e] at c4; omega
 ·
  rw [i64_w]; unfold wrap64; omega
 ·
  rw [i64_w]; unfold wrap64; omega
theorem civ_end {n y r : Int} (hn : 0 ≤ n ∧ n ≤ 109572) (hr : r = n - M.before y) (hy : y = M.civY n) : 0 ≤ r ∧ r < 365 + M.lp y ∧ M.monOf y r = M.civM n ∧ 0 ≤ y ∧ 1 ≤ M.civM n := by
 obtain ⟨c1, c2, c3, c4⟩ := M.xdF n hn.1 hn.2
 have h1 := M.xcF y;subst hy
 have c3' : M.before (M.civY n) ≤ n := c3
 have c4' : n < M.before (M.civY n + 1) := c4
 have c1' : 1900 ≤ M.civY n := c1
 have h2 : 0 ≤ r ∧ r < 365 + M.lp (M.civY n) := by omega
 have h3 := (M.xeC (M.civY n) r h2.1 h2.2).1
 have h4 : M.monOf (M.civY n) r = M.civM n := by rw [hr]; rfl
 exact ⟨h2.1, h2.2, h4, by omega, by omega⟩
def dtV (y m d : Int) : Value := .agg #[.int .i64 y, .int .i64 m, .int .i64 d]
theorem civBad_c (n : Int) (w : World) (h : ¬ (0 ≤ n ∧ n ≤ 109572)) : Calls Tryz.prog 136 #[.int .i64 n] w fun e w' => e = .returned (.tuple #[dtV 0 0 0, .int .i64 51]) ∧ Below w.heap.size w w' := by
 have HB : xaA (Below w.heap.size w w) := ⟨Below.refl _ _⟩
 unfold dtV
 by_cases h1 : n < 0
 ·
  have t1 : decide (n < 0) = true := decide_eq_true h1
  clear h h1
  go_enter Tryz.func136, Tryz.ntmps136
  go_upto_if 12 with ((with_reducible refine xaJ (N := 2) rfl ?_); refine bxv 2 #[.int .i64 0, .int .i64 0, .int .i64 0] 198 ?_; intro g hg w1 hbox hb; have Bg := am hbox; have HBg := HB; replace HB := am (xaC HB.out hb); have HGg := am hg; have HLg := am (xaM hbox); clear hb hbox hg)
  have hgb : xaA (w.heap.size ≤ g) := ⟨Nat.le_of_eq HGg.out.symm⟩
  have cg_ := cz3 Bg
  go_wp2_with fail
  skip
  have B3 := put3 (.int .i64 0) (.int .i64 0) (.int .i64 0) Bg.out
  have HB3 : Below w.heap.size w (((w1.setCell ⟨g, 0, none⟩ (.int .i64 0)).setCell ⟨g, 1, none⟩ (.int .i64 0)).setCell ⟨g, 2, none⟩ (.int .i64 0)) := xaF (xaF (xaF HB.out hgb.out) hgb.out) hgb.out
  generalize (((w1.setCell ⟨g, 0, none⟩ (.int .i64 0)).setCell ⟨g, 1, none⟩ (.int .i64 0)).setCell ⟨g, 2, none⟩ (.int .i64 0)) = wz at *
  have d0 : wz.cell? ⟨g, 0, none⟩ = some (.int .i64 0) := (xaB B3 0).trans rfl
  have d1 : wz.cell? ⟨g, 1, none⟩ = some (.int .i64 0) := (xaB B3 1).trans rfl
  have d2 : wz.cell? ⟨g, 2, none⟩ = some (.int .i64 0) := (xaB B3 2).trans rfl
  exact bodyPost_ret (v := .tuple #[.agg #[.int .i64 0, .int .i64 0, .int .i64 0], .int .i64 51]) (by simp [results, Tryz.results136, go_sem, d0, d1, d2]) rfl ⟨rfl, HB3⟩
 ·
  have t1 : decide (n < 0) = false := decide_eq_false h1
  have t2 : decide (109572 < n) = true := decide_eq_true (by omega)
  clear h h1
  go_enter Tryz.func136, Tryz.ntmps136
  go_upto_if 12 with ((with_reducible refine xaJ (N := 2) rfl ?_); refine bxv 2 #[.int .i64 0, .int .i64 0, .int .i64 0] 198 ?_; intro g hg w1 hbox hb; have Bg := am hbox; have HBg := HB; replace HB := am (xaC HB.out hb); have HGg := am hg; have HLg := am (xaM hbox); clear hb hbox hg)
  have hgb : xaA (w.heap.size ≤ g) := ⟨Nat.le_of_eq HGg.out.symm⟩
  have cg_ := cz3 Bg
  go_wp2_with fail
  have B3 := put3 (.int .i64 0) (.int .i64 0) (.int .i64 0) Bg.out
  have HB3 : Below w.heap.size w (((w1.setCell ⟨g, 0, none⟩ (.int .i64 0)).setCell ⟨g, 1, none⟩ (.int .i64 0)).setCell ⟨g, 2, none⟩ (.int .i64 0)) := xaF (xaF (xaF HB.out hgb.out) hgb.out) hgb.out
  generalize (((w1.setCell ⟨g, 0, none⟩ (.int .i64 0)).setCell ⟨g, 1, none⟩ (.int .i64 0)).setCell ⟨g, 2, none⟩ (.int .i64 0)) = wz at *
  have d0 : wz.cell? ⟨g, 0, none⟩ = some (.int .i64 0) := (xaB B3 0).trans rfl
  have d1 : wz.cell? ⟨g, 1, none⟩ = some (.int .i64 0) := (xaB B3 1).trans rfl
  have d2 : wz.cell? ⟨g, 2, none⟩ = some (.int .i64 0) := (xaB B3 2).trans rfl
  exact bodyPost_ret (v := .tuple #[.agg #[.int .i64 0, .int .i64 0, .int .i64 0], .int .i64 51]) (by simp [results, Tryz.results136, go_sem, d0, d1, d2]) rfl ⟨rfl, HB3⟩
theorem xiG (n : Int) (w : World) (h : 0 ≤ n ∧ n ≤ 109572) : Calls Tryz.prog 136 #[.int .i64 n] w fun e w' => e = .returned (.tuple #[dtV (M.civY n) (M.civM n) (M.civD n), .int .i64 0]) ∧ Below w.heap.size w w' := by
 have HB : xaA (Below w.heap.size w w) := ⟨Below.refl _ _⟩
 have HLE : xaA (∀ i w, 0 ≤ i → Calls Tryz.prog 152 #[.int .i64 i] w fun e w' => e = .returned (.bool (M.leap i)) ∧ w' = w) := ⟨fun i w h => leap_c i w h⟩
 have HLN : xaA (∀ y i w, 0 ≤ y → Calls Tryz.prog 138 #[.int .i64 y, .int .i64 i] w fun e w' => e = .returned (.int .i64 (M.mlen y i)) ∧ w' = w) := ⟨fun y i w h => xhF y i w h⟩
 have t1 : decide (n < 0) = false := decide_eq_false (by omega)
 have t2 : decide (109572 < n) = false := decide_eq_false (by omega)
 have HY0 := am (show 1900 ≤ M.civY n from (M.xdF n h.1 h.2).1)
 have HN := am h
 have HD0 : xaA (M.civD n = n - M.before (M.civY n) - M.cum (M.civY n) (M.civM n) + 1) := ⟨rfl⟩
 unfold dtV
 generalize hcd : M.civD n = cd at *
 clear h hcd
 go_enter Tryz.func136, Tryz.ntmps136
 go_upto_if 12 with ((with_reducible refine xaJ (N := 2) rfl ?_); refine bxv 2 #[.int .i64 0, .int .i64 0, .int .i64 0] 198 ?_; intro g hg w1 hbox hb; have Bg := am hbox; have HBg := HB; replace HB := am (xaC HB.out hb); have HGg := am hg; have HLg := am (xaM hbox); clear hb hbox hg)
 have hgb : xaA (w.heap.size ≤ g) := ⟨Nat.le_of_eq HGg.out.symm⟩
 go_wp2_with fail
 skip
 go_loopg [0, 4] (M.civY n - 1900).toNat (fun kq v0 v4 w' => ∃ y r : Int, (kq = (M.civY n - y).toNat ∧ 1900 ≤ y ∧ y ≤ M.civY n) ∧ v0 = .int .i64 r ∧ v4 = .int .i64 y ∧ xaA (r = n - M.before y) ∧ w' = w1)
 case atStart => exact ⟨1900, n, ⟨rfl, Int.le_refl _, HY0.out⟩, rfl, rfl, ⟨by rw [M.xdU]; omega⟩, rfl⟩
 case round =>
  obtain ⟨y, r, ⟨hk, hy1, hy2⟩, rfl, rfl, HO, rfl⟩ := hrel
  obtain ⟨k, r2, j, e1, e2, e3, a1, e4, a2⟩ := civ_facts1 HN.out ⟨hy1, hy2⟩ HO.out
  have HL2 := am (HLE.out y)
  have hy0 : 0 ≤ y := by omega
  have hkk : M.leap y = decide (k = 366) := by
   rw [e1]; unfold M.lp; cases M.leap y <;> rfl
  have hk2 : k = 365 ∨ k = 366 := by have := M.lp_01 y; omega
  rw [hkk] at HL2
  have HE1 := am e1;clear e1 hkk HLE
  by_cases hlt : r < k
  ·
   have t3 : decide (r < k) = true := decide_eq_true hlt
   obtain ⟨f1, f2, f3, f4, f5⟩ := civ_end HN.out HO.out (e2 hlt)
   have HF := am (And.intro f1 f2)
   have hye := e2 hlt;have hm := f5
   rw [← f3] at hm
   have HFM := am f3;have HFY := am hye;have HM1 := am hm;clear e2 e3 e4 a1 a2 hlt f1 f2 f3 f5 hye hm hk hy1 hy2
   rcases hk2 with rfl | rfl
   all_goals
    go_wp2_with (go_at_call 152; go_loud ((with_reducible refine (HL2.out _ hy0).mono ?_); rintro x w2 ⟨rfl, hw_⟩; obtain rfl := hw_.symm))
    skip
    go_loopg [0, 6] (M.monOf y r - 1).toNat (fun kq v0 v6 w' => ∃ m q : Int, (kq = (M.monOf y r - m).toNat ∧ 1 ≤ m ∧ m ≤ M.monOf y r) ∧ v0 = .int .i64 q ∧ v6 = .int .i64 m ∧ xaA (q = r - M.cum y m) ∧ w' = wr)
    case atStart => exact ⟨1, r, ⟨rfl, Int.le_refl _, HM1.out⟩, rfl, rfl, ⟨by rw [M.cum_1]; omega⟩, rfl⟩
    case round =>
     obtain ⟨m, q, ⟨hk, hm1, hm2⟩, rfl, rfl, HQ, rfl⟩ := hrel
     obtain ⟨l, q2, j, e1, e2, e3, a1, e4, a2⟩ := civ_facts2 HF.out ⟨hm1, hm2⟩ HQ.out
     have HL3 := am (HLN.out y m)
     rw [← e1] at HL3
     clear e1
     by_cases hlt : q < l
     ·
      have t4 : decide (l ≤ q) = false := decide_eq_false (by omega)
      have hme := e2 hlt
      have hd2 : IntKind.i64.wrap (q + 1) = cd := by
       have h1 := HQ.out;have h2 := HO.out;have h3 := HD0.out
       rw [← HFY.out, ← HFM.out, ← hme] at h3
       have h4 := M.xgR y m;have h5 := HF.out;have h6 := M.lp_01 y
       rw [i64_w]; unfold wrap64; omega
      rw [HFM.out] at hme
      have HME := am hme;clear e2 e3 e4 a1 a2 hlt hme hk hm1 hm2
      skip
      have cg_ := cz3 Bg
      go_wp2_with (go_at_call 138; go_loud ((with_reducible refine (HL3.out _ (by assumption)).mono ?_); rintro x w2 ⟨rfl, hw_⟩; obtain rfl := hw_.symm))
      skip
      have B3 := put3 (.int .i64 y) (.int .i64 m) (.int .i64 cd) Bg.out
      have HB3 : Below w.heap.size w (((wr.setCell ⟨g, 0, none⟩ (.int .i64 y)).setCell ⟨g, 1, none⟩ (.int .i64 m)).setCell ⟨g, 2, none⟩ (.int .i64 cd)) := xaF (xaF (xaF HB.out hgb.out) hgb.out) hgb.out
      generalize (((wr.setCell ⟨g, 0, none⟩ (.int .i64 y)).setCell ⟨g, 1, none⟩ (.int .i64 m)).setCell ⟨g, 2, none⟩ (.int .i64 cd)) = wz at *
      have d0 : wz.cell? ⟨g, 0, none⟩ = some (.int .i64 y) := (xaB B3 0).trans rfl
      have d1 : wz.cell? ⟨g, 1, none⟩ = some (.int .i64 m) := (xaB B3 1).trans rfl
      have d2 : wz.cell? ⟨g, 2, none⟩ = some (.int .i64 cd) := (xaB B3 2).trans rfl
      exact bodyPost_ret (v := .tuple #[.agg #[.int .i64 y, .int .i64 m, .int .i64 cd], .int .i64 0]) (by simp [results, Tryz.results136, go_sem, d0, d1, d2]) rfl ⟨by rw [← HFY.out, ← HME.out]; first | done | rfl, HB3⟩
     ·
      have t4 : decide (l ≤ q) = true := decide_eq_true (by omega)
      obtain ⟨e5, e6⟩ := e3 hlt
      have HR : xaA ((1 ≤ j ∧ j ≤ M.monOf y r) ∧ (M.monOf y r - j).toNat < gk) := ⟨by omega⟩
      rw [← e4] at e6
      have HQ2 := am e6;clear e2 e3 e4 e5 e6 hlt hk hm1 hm2
      go_wp2_with (go_at_call 138; go_loud ((with_reducible refine (HL3.out _ (by assumption)).mono ?_); rintro x w2 ⟨rfl, hw_⟩; obtain rfl := hw_.symm))
      skip
      go_roundg (M.monOf y r - j).toNat
      case measure => exact HR.out.2
      case rel => exact ⟨j, q2, ⟨rfl, HR.out.1⟩, by first | rfl | rw [a1], by first | rfl | rw [a2], HQ2, rfl⟩
  ·
   have t3 : decide (r < k) = false := decide_eq_false hlt
   obtain ⟨e5, e6⟩ := e3 hlt
   have HR : xaA ((1900 ≤ j ∧ j ≤ M.civY n) ∧ (M.civY n - j).toNat < gk) := ⟨by omega⟩
   rw [← e4] at e6
   have HQ2 := am e6;clear e2 e3 e4 e5 e6 hlt hk hy1 hy2
   rcases hk2 with rfl | rfl
   all_goals
    go_wp2_with (go_at_call 152; go_loud ((with_reducible refine (HL2.out _ hy0).mono ?_); rintro x w2 ⟨rfl, hw_⟩; obtain rfl := hw_.symm))
    skip
    go_roundg (M.civY n - j).toNat
    case measure => exact HR.out.2
    case rel => exact ⟨j, r2, ⟨rfl, HR.out.1⟩, by first | rfl | rw [a1], by first | rfl | rw [a2], HQ2, rfl⟩
def xiZ (y m k : Int) : Value := if -4000 ≤ k ∧ k ≤ 4000 ∧ 22800 ≤ 12 * y + m - 1 + k ∧ 12 * y + m - 1 + k ≤ 26399 then .tuple #[.int .i64 ((12 * y + m - 1 + k) / 12), .int .i64 ((12 * y + m - 1 + k) % 12 + 1), .bool true] else .tuple #[.int .i64 0, .int .i64 0, .bool false]
theorem month_c (y m d k : Int) (w : World) (hy : 1900 ≤ y ∧ y ≤ 2199) (hm : 1 ≤ m ∧ m ≤ 12) : Calls Tryz.prog 137 #[dtV y m d, .int .i64 k] w fun e w' => e = .returned (xiZ y m k) ∧ Below w.heap.size w w' := by
 have HB : xaA (Below w.heap.size w w) := ⟨Below.refl _ _⟩
 unfold dtV xiZ
 by_cases h1 : k < -4000
 ·
  have t1 : decide (k < -4000) = true := decide_eq_true h1
  rw [if_neg (by omega)]
  clear hy hm h1
  go_enter Tryz.func137, Tryz.ntmps137
  go_wp2_with ((with_reducible refine xaJ (N := 2) rfl ?_); refine bxv 2 #[.int .i64 y, .int .i64 m, .int .i64 d] 198 ?_; intro g hg w1 hbox hb; have Bg := am hbox; have HBg := HB; replace HB := am (xaC HB.out hb); have HGg := am hg; have HLg := am (xaM hbox); clear hb hbox hg)
  go_ret3
  exact ⟨rfl, HB.out⟩
 ·
  have t1 : decide (k < -4000) = false := decide_eq_false h1
  by_cases h2 : 4000 < k
  ·
   have t2 : decide (4000 < k) = true := decide_eq_true h2
   rw [if_neg (by omega)]
   clear hy hm h1 h2
   go_enter Tryz.func137, Tryz.ntmps137
   go_wp2_with ((with_reducible refine xaJ (N := 2) rfl ?_); refine bxv 2 #[.int .i64 y, .int .i64 m, .int .i64 d] 198 ?_; intro g hg w1 hbox hb; have Bg := am hbox; have HBg := HB; replace HB := am (xaC HB.out hb); have HGg := am hg; have HLg := am (xaM hbox); clear hb hbox hg)
   go_ret3
   exact ⟨rfl, HB.out⟩
  ·
   have t2 : decide (4000 < k) = false := decide_eq_false h2
   obtain ⟨p, hp⟩ : ∃ p, p = 12 * y := ⟨_, rfl⟩
   obtain ⟨q, hq⟩ : ∃ q, q = p + m := ⟨_, rfl⟩
   obtain ⟨r, hr⟩ : ∃ r, r = q - 1 := ⟨_, rfl⟩
   obtain ⟨at_, ha⟩ : ∃ at_, at_ = r + k := ⟨_, rfl⟩
   have a1 : IntKind.i64.wrap (12 * y) = p := by rw [i64_w]; unfold wrap64; omega
   have a2 : IntKind.i64.wrap (p + m) = q := by rw [i64_w]; unfold wrap64; omega
   have a3 : IntKind.i64.wrap (q - 1) = r := by rw [i64_w]; unfold wrap64; omega
   have a4 : IntKind.i64.wrap (r + k) = at_ := by rw [i64_w]; unfold wrap64; omega
   rw [show 12 * y + m - 1 + k = at_ by omega]
   by_cases h3 : at_ < 22800
   ·
    have t3 : decide (at_ < 22800) = true := decide_eq_true h3
    rw [if_neg (by omega)]
    clear hy hm h1 h2 h3 hp hq hr ha
    go_enter Tryz.func137, Tryz.ntmps137
    go_upto_region 1 with ((with_reducible refine xaJ (N := 2) rfl ?_); refine bxv 2 #[.int .i64 y, .int .i64 m, .int .i64 d] 198 ?_; intro g hg w1 hbox hb; have Bg := am hbox; have HBg := HB; replace HB := am (xaC HB.out hb); have HGg := am hg; have HLg := am (xaM hbox); clear hb hbox hg)
    have cg_ := ce3 Bg
    go_wp2_with fail
    go_ret3
    exact ⟨rfl, HB.out⟩
   ·
    have t3 : decide (at_ < 22800) = false := decide_eq_false h3
    by_cases h4 : 26399 < at_
    ·
     have t4 : decide (26399 < at_) = true := decide_eq_true h4
     rw [if_neg (by omega)]
     clear hy hm h1 h2 h3 h4 hp hq hr ha
     go_enter Tryz.func137, Tryz.ntmps137
     go_upto_region 1 with ((with_reducible refine xaJ (N := 2) rfl ?_); refine bxv 2 #[.int .i64 y, .int .i64 m, .int .i64 d] 198 ?_; intro g hg w1 hbox hb; have Bg := am hbox; have HBg := HB; replace HB := am (xaC HB.out hb); have HGg := am hg; have HLg := am (xaM hbox); clear hb hbox hg)
     have cg_ := ce3 Bg
     go_wp2_with fail
     go_ret3
     exact ⟨rfl, HB.out⟩
    ·
     have t4 : decide (26399 < at_) = false := decide_eq_false h4
     rw [if_pos (by omega)]
     obtain ⟨a, ha1⟩ : ∃ a, at_ / 12 = a := ⟨_, rfl⟩
     obtain ⟨b, hb1⟩ : ∃ b, at_ % 12 = b := ⟨_, rfl⟩
     have a5 : at_.tdiv 12 = a := by rw [← ha1]; exact Int.tdiv_eq_ediv_of_nonneg (by omega)
     have a6 : at_.tmod 12 = b := by rw [← hb1]; exact tms (by omega)
     have a7 : IntKind.i64.wrap a = a := by rw [i64_w]; unfold wrap64; omega
     have a8 : IntKind.i64.wrap (b + 1) = b + 1 := by rw [i64_w]; unfold wrap64; omega
     rw [ha1, hb1]
     clear hy hm h1 h2 h3 h4 hp hq hr ha ha1 hb1
     go_enter Tryz.func137, Tryz.ntmps137
     go_upto_region 1 with ((with_reducible refine xaJ (N := 2) rfl ?_); refine bxv 2 #[.int .i64 y, .int .i64 m, .int .i64 d] 198 ?_; intro g hg w1 hbox hb; have Bg := am hbox; have HBg := HB; replace HB := am (xaC HB.out hb); have HGg := am hg; have HLg := am (xaM hbox); clear hb hbox hg)
     have cg_ := ce3 Bg
     go_wp2_with fail
     go_ret3
     exact ⟨by first | rfl | rw [a8], HB.out⟩
end Go.Proofs.YtkabcgmegljebaaGreatDoor.D
namespace Go.Proofs.YtkabcgmegljebaaGreatDoorW.PrintWords
open Go.RowKit
namespace Kd
section
variable {α : Type} {P : Program} {ops : Array Oper} {rest : List Oper} {o : Oper} {a : Act} {Q : Exit → Act → World → Prop}
theorem xgT (d : Kd α) {w0 W : World} (base e : Nat) (hgd : o.guard = none) {N : Tmp} (hd : o.dst = some N) (t : TypeId) (x y : Operand) (ho : o.op = .makeSlice t x y) (n : Int) (hx : a.eval x = .int .i64 0) (hy : a.eval y = .int .i64 n)
  (ht : P.underlying t = some (.slice e)) (z : Value) (bytes : Nat) (hinfo : (P.info? e).map (fun i => (i.zero, i.size, i.bytes)) = some (some z, d.sz, bytes)) (hz : z.cells.size = d.sz) (hs0 : 0 < d.sz) (hb0 : 0 < bytes)
  (z0 : α) {ok okp : Nat → Prop} (hzero : d.M W base okp z0 z.cells.toList) (hok : ∀ k, okp k → ok k) (hfresh : ok W.heap.size) (h0 : 0 ≤ n) (hl : n.toNat * bytes ≤ 281474976710656) (HB : Below base w0 W) (hbase : base ≤ W.heap.size)
  (h : ∀ v1 w1, d.R e w1 base ok v1 (List.replicate 0 z0) → Below base w0 w1 → W.grownBy w1 none → (∃ b, v1.ownBlock = some b ∧ W.heap.size ≤ b) → wpList P ops Q rest (a.put o.dst v1) w1) : wpList P ops Q (o :: rest) a W := by
 obtain ⟨m, rfl⟩ := Int.eq_ofNat_of_zero_le h0
 simp only [Int.toNat_natCast] at hl
 obtain ⟨i0, hi, hzz⟩ := Option.map_eq_some_iff.1 hinfo
 simp only [Prod.mk.injEq] at hzz
 obtain ⟨hz0, hz1, hz2⟩ := hzz
 have hm : m ≤ 281474976710656 := Nat.le_trans (Nat.le_mul_of_pos_right _ hb0) hl
 have hbs : (i0.bytes : Int) * (m : Int) ≤ 281474976710656 := by
  have h3 : ((i0.bytes * m : Nat) : Int) ≤ 281474976710656 := by rw [hz2, Nat.mul_comm]; omega
  rwa [Int.natCast_mul] at h3
 have hr := run_make (P := P) W t e i0 z ht hi hz0 .i64 .i64 0 (m : Int) (Int.le_refl _) (by omega) hbs (by omega)
 simp only [Int.toNat_natCast, Int.toNat_zero] at hr
 have hrun : (execOp a.eval o).run P W = .ok (.value (.slice (some ⟨W.heap.size, 0, none⟩) 0 m)) (W.alloc (.cells (madeCells z.cells (m * i0.size)) e)) := by
  simp [execOp, ho, hx, hy, hr]
 refine xgD hgd hrun (h _ _ ⟨fun k hk => ?_, [], ?_, Reps.none _ _⟩ (HB.alloc hbase _) (World.grownBy_alloc W _ none) ⟨W.heap.size, by simp [Value.ownBlock], Nat.le_refl _⟩)
 ·
  have : W.heap.size = k := by simpa [Value.ownBlock] using hk
  subst this
  exact hfresh
 ·
  rw [hz1]
  exact ⟨by simp, .inr ⟨W.heap.size, m, _, rfl, hbase, heap_alloc_new W _, Nat.zero_le _, by simp only [maxLen]; omega, size_madeCells _ _, by simp⟩⟩
end
end Kd
end Go.Proofs.YtkabcgmegljebaaGreatDoorW.PrintWords
namespace Go.Proofs.YtkabcgmegljebaaGreatDoor.H
open Go.RowKit Go.Proofs.YtkabcgmegljebaaGreatDoorW.PrintWords Go.Proofs.YtkabcgmegljebaaGreatDoorW.PrintLast Go.Proofs.YtkabcgmegljebaaGreatDoorW.PrintMore
open Go.Proofs.YtkabcgmegljebaaGreatDoor.Q
def ngF (x : S48) : S48 := ⟨x.f0, Op.negFloat .f64 x.f1, x.f2⟩
theorem xdA {α β : Type} (f : α → β) (l : List α) (i : Nat) (h : i < l.length) : (l.take (i + 1)).map f = (l.take i).map f ++ [f l[i]] := by
  rw [List.take_succ_eq_append_getElem h, List.map_append]; rfl
theorem rd48 {l : List S48} {i : Nat} (h : i < l.length) : xiW l (i : Int) = l[i] := by
  unfold xiW; rw [Int.toNat_natCast, List.getD_eq_getElem?_getD, List.getElem?_eq_getElem h]; rfl
theorem flowGive (A : Option Addr) (c : Nat) (l : List S48) (w : World) (hr : Kd.C k48 w A l.length l) (hl : l.length ≤ 4096) :
  Calls Tryz.prog 73 #[.slice A l.length c] w fun e w' => ∃ v, e = .returned v ∧ Kd.R k48 48 w' w.heap.size (fun _ => True) v (l.map ngF) ∧ Below w.heap.size w w' := by
 have HR := am hr;have HL := am hl
 have HB := am (Below.refl w.heap.size w)
 clear hr hl
 go_enter Tryz.func73, Tryz.ntmps73
 go_wp2_with ((with_reducible refine xaJ (N := 8) rfl ?_); refine Kd.xgT k48 _ 48 rfl (N := 8) rfl 24 _ _ rfl (l.length : Int) rfl rfl Tryz.underlying24 (.agg #[.int .i64 0, .float .f64 0, .int .i64 0]) 24 xeA rfl (by decide) (by omega) z48 (ok := fun _ => True) (okp := fun _ => True) (xeU _ _ _ z48) (fun _ hk => hk) trivial (by omega) (by have := HL.out; omega) (Below.refl _ _) (Nat.le_refl _) ?_; intro v0 w1 ho hb hg_ hnew_; clear hg_ hnew_; have HO := am ho; replace HB := am hb; clear ho hb)
 go_loopg [3, 11] (l.length) (fun kq v3 v11 w' => ∃ i : Nat, i ≤ l.length ∧ kq + i = l.length ∧ v11 = .int .i64 i ∧ xaA (Kd.R k48 48 w' w.heap.size (fun _ => True) v3 ((l.take i).map ngF)) ∧ xaA (Below w.heap.size w w'))
 case atStart => exact ⟨0, by omega, by omega, rfl, HO, HB⟩
 case round =>
  obtain ⟨i, hi, hk, rfl, HO, HB⟩ := hrel
  by_cases hlt : i < l.length
  ·
   obtain ⟨ad, e, h0, h1, h2⟩ := xhA (Kd.xaQ HR.out HB.out) (i : Int) (by omega) (by omega)
   subst e
   rw [rd48 hlt] at h0 h1 h2
   rw [Int.toNat_natCast] at h0 h1 h2
   have HT := am (xdA ngF l i hlt)
   obtain ⟨x, hx⟩ : ∃ x, x = l[i] := ⟨_, rfl⟩
   have HXX := am hx
   rw [← hx] at h0 h1 h2
   clear hx
   have hmx : (i : Int) + 1 ≤ 9223372036854775807 := by have := HL.out; omega
   go_wp2_with ((with_reducible refine xaR (b := .append) (xs := #[.tmp 19, .tmp 21]) rfl ?_); at_builtin; refine Kd.xgJ k48 (w0 := w) w.heap.size rfl (.tmp 19) (.tmp 21) 24 48 (.agg #[.int .i64 0, .float .f64 0, .int .i64 0]) 24 rfl Tryz.underlying24 xeA rfl (by decide) (by omega) u3 ((l.take i).map ngF) (ngF x) [.int .i64 x.f0, .float .f64 (Op.negFloat .f64 x.f1), .int .i64 x.f2] (fun _ => True) (fun _ => False) rfl ?aX (xeU _ _ _ (ngF x)) (fun _ hk => hk.elim) (fun _ _ => trivial) (Kd.xfJ HO.out _) (xaH HB.out _) (xeD (xaH HB.out _)) ?aL ?_; (case aX => show Value.slice (some ⟨wr.heap.size + 1, 0, none⟩) 1 1 = _; simp); (case aL => have := HL.out; simp only [List.length_map, List.length_take]; omega); intro v1 w2 ho hb hg hat; rw [HXX.out, ← HT.out] at ho; replace HO := am ho; replace HB := am hb; clear ho hb hg hat)
   go_roundg (gk - 1)
   case measure => omega
   case rel => exact ⟨i + 1, by omega, by omega, by go_num, HO, HB⟩
  ·
   go_wp2_with fail
   go_ret
   have e : l.take i = l := List.take_of_length_le (by omega)
   exact ⟨_, rfl, by rw [← e]; exact HO.out, HB.out⟩
end Go.Proofs.YtkabcgmegljebaaGreatDoor.H
namespace Go.Proofs.YtkabcgmegljebaaGreatDoor.Q
open Go.RowKit Go.Proofs.YtkabcgmegljebaaGreatDoorW.PrintWords Go.Proofs.YtkabcgmegljebaaGreatDoorW.PrintLast Go.Proofs.YtkabcgmegljebaaGreatDoorW.PrintMore
attribute [local go_sem] xbV xbT xcM xcL xbN xbM xbU xbS
def xiC.f (a0_0 a0_1 a0_2 : Int) (a0_3 a0_4 : Nat) (a0_5 a0_6 a0_7 a0_8 a0_9 a0_10 : Int) : Option (Int × Int × Int × Nat × Nat × Int × Int × Int × Int × Int × Int) := some (a0_0, a0_1, a0_2, 0, 0, 0, 0, 0, 0, 0, 0)
theorem xiC.calls (a0_0 a0_1 a0_2 : Int) (a0_3 a0_4 : Nat) (a0_5 a0_6 a0_7 a0_8 a0_9 a0_10 r1 r2 r3 : Int) (r4 r5 : Nat) (r6 r7 r8 r9 r10 r11 : Int) (w : World) (h : xiC.f a0_0 a0_1 a0_2 a0_3 a0_4 a0_5 a0_6 a0_7 a0_8 a0_9 a0_10 = some (r1, r2, r3, r4, r5, r6, r7, r8, r9, r10, r11)) :
  Calls Tryz.prog 91 #[.agg #[.int .i64 a0_0, .int .i64 a0_1, .int .i64 a0_2, .float .f64 a0_3, .float .f64 a0_4, .int .i64 a0_5, .int .i64 a0_6, .int .i64 a0_7, .int .i64 a0_8, .int .i64 a0_9, .int .i64 a0_10]] w fun e w' => e = .returned (.agg #[.int .i64 r1, .int .i64 r2, .int .i64 r3, .float .f64 r4, .float .f64 r5, .int .i64 r6, .int .i64 r7, .int .i64 r8, .int .i64 r9, .int .i64 r10, .int .i64 r11]) ∧ Below w.heap.size w w' := by
 have hu103 := Tryz.underlying103
 have HB := am (Below.refl w.heap.size w)
 have H : (some (a0_0, a0_1, a0_2, 0, 0, 0, 0, 0, 0, 0, 0)) = some (r1, r2, r3, r4, r5, r6, r7, r8, r9, r10, r11) := h
 clear h
 simp only [Option.some.injEq, Prod.mk.injEq] at H
 obtain ⟨rfl, rfl, rfl, rfl, rfl, rfl, rfl, rfl, rfl, rfl, rfl⟩ := H
 go_enter Tryz.func91, Tryz.ntmps91
 go_wp2_with (first | ((with_reducible refine xaJ (N := 1) rfl ?_); refine xgF ?hg (N := 1) ?hd (cs := #[.int .i64 a0_0, .int .i64 a0_1, .int .i64 a0_2, .float .f64 a0_3, .float .f64 a0_4, .int .i64 a0_5, .int .i64 a0_6, .int .i64 a0_7, .int .i64 a0_8, .int .i64 a0_9, .int .i64 a0_10]) (t := 103) ?hr ?_; (case hd => rfl); (case hg => rfl); (case hr => first | (go_simp; done) | (go_simp; rfl)); intro gb101 hg w2 hbox hb; have BK101 := am (hbox); have GW101 := bG hg; have GE101 := bG hg; replace HB := bS hb; clear hb hbox hg) | ((with_reducible refine xaJ (N := 2) rfl ?_); refine xgF ?hg (N := 2) ?hd (cs := #[.int .i64 0, .int .i64 0, .int .i64 0, .float .f64 0, .float .f64 0, .int .i64 0, .int .i64 0, .int .i64 0, .int .i64 0, .int .i64 0, .int .i64 0]) (t := 103) ?hr ?_; (case hd => rfl); (case hg => rfl); (case hr => first | (go_simp; done) | (go_simp; rfl)); intro gb102 hg w3 hbox hb; have BK102 := am (hbox); have GW102 := bG hg; have GE102 := bG hg; replace HB := bS hb; have NB101_102 := am ((by rw [hg]; exact Nat.ne_of_lt (xaM (g := gb101) (o := .cells #[.int .i64 a0_0, .int .i64 a0_1, .int .i64 a0_2, .float .f64 a0_3, .float .f64 a0_4, .int .i64 a0_5, .int .i64 a0_6, .int .i64 a0_7, .int .i64 a0_8, .int .i64 a0_9, .int .i64 a0_10] 103 (0, 0)) (bk BK101)) : gb101 ≠ gb102)); have NB102_101 := am ((by rw [hg]; exact Nat.ne_of_gt (xaM (g := gb101) (o := .cells #[.int .i64 a0_0, .int .i64 a0_1, .int .i64 a0_2, .float .f64 a0_3, .float .f64 a0_4, .int .i64 a0_5, .int .i64 a0_6, .int .i64 a0_7, .int .i64 a0_8, .int .i64 a0_9, .int .i64 a0_10] 103 (0, 0)) (bk BK101)) : gb102 ≠ gb101)); replace BK101 := bK BK101 hb; clear hb hbox hg; have hnb4 := NB101_102.out; have hnc4 := NB102_101.out; have hcz5_0 : w3.cell? ⟨gb101, 0, none⟩ = some (.int .i64 a0_0) := (xaB BK101.out 0).trans rfl; have hcz5_1 : w3.cell? ⟨gb101, 1, none⟩ = some (.int .i64 a0_1) := (xaB BK101.out 1).trans rfl; have hcz5_2 : w3.cell? ⟨gb101, 2, none⟩ = some (.int .i64 a0_2) := (xaB BK101.out 2).trans rfl; have hcz5_3 : w3.cell? ⟨gb101, 3, none⟩ = some (.float .f64 a0_3) := (xaB BK101.out 3).trans rfl; have hcz5_4 : w3.cell? ⟨gb101, 4, none⟩ = some (.float .f64 a0_4) := (xaB BK101.out 4).trans rfl; have hcz5_5 : w3.cell? ⟨gb101, 5, none⟩ = some (.int .i64 a0_5) := (xaB BK101.out 5).trans rfl; have hcz5_6 : w3.cell? ⟨gb101, 6, none⟩ = some (.int .i64 a0_6) := (xaB BK101.out 6).trans rfl; have hcz5_7 : w3.cell? ⟨gb101, 7, none⟩ = some (.int .i64 a0_7) := (xaB BK101.out 7).trans rfl; have hcz5_8 : w3.cell? ⟨gb101, 8, none⟩ = some (.int .i64 a0_8) := (xaB BK101.out 8).trans rfl; have hcz5_9 : w3.cell? ⟨gb101, 9, none⟩ = some (.int .i64 a0_9) := (xaB BK101.out 9).trans rfl; have hcz5_10 : w3.cell? ⟨gb101, 10, none⟩ = some (.int .i64 a0_10) := (xaB BK101.out 10).trans rfl; have hfz5_0 := xaE BK101.out 0; have hfz5_1 := xaE BK101.out 1; have hfz5_2 := xaE BK101.out 2; have hfz5_3 := xaE BK101.out 3; have hfz5_4 := xaE BK101.out 4; have hfz5_5 := xaE BK101.out 5; have hfz5_6 := xaE BK101.out 6; have hfz5_7 := xaE BK101.out 7; have hfz5_8 := xaE BK101.out 8; have hfz5_9 := xaE BK101.out 9; have hfz5_10 := xaE BK101.out 10; have hcz6_0 : w3.cell? ⟨gb102, 0, none⟩ = some (.int .i64 0) := (xaB BK102.out 0).trans rfl; have hcz6_1 : w3.cell? ⟨gb102, 1, none⟩ = some (.int .i64 0) := (xaB BK102.out 1).trans rfl; have hcz6_2 : w3.cell? ⟨gb102, 2, none⟩ = some (.int .i64 0) := (xaB BK102.out 2).trans rfl; have hcz6_3 : w3.cell? ⟨gb102, 3, none⟩ = some (.float .f64 0) := (xaB BK102.out 3).trans rfl; have hcz6_4 : w3.cell? ⟨gb102, 4, none⟩ = some (.float .f64 0) := (xaB BK102.out 4).trans rfl; have hcz6_5 : w3.cell? ⟨gb102, 5, none⟩ = some (.int .i64 0) := (xaB BK102.out 5).trans rfl; have hcz6_6 : w3.cell? ⟨gb102, 6, none⟩ = some (.int .i64 0) := (xaB BK102.out 6).trans rfl; have hcz6_7 : w3.cell? ⟨gb102, 7, none⟩ = some (.int .i64 0) := (xaB BK102.out 7).trans rfl; have hcz6_8 : w3.cell? ⟨gb102, 8, none⟩ = some (.int .i64 0) := (xaB BK102.out 8).trans rfl; have hcz6_9 : w3.cell? ⟨gb102, 9, none⟩ = some (.int .i64 0) := (xaB BK102.out 9).trans rfl; have hcz6_10 : w3.cell? ⟨gb102, 10, none⟩ = some (.int .i64 0) := (xaB BK102.out 10).trans rfl; have hfz6_0 := xaE BK102.out 0; have hfz6_1 := xaE BK102.out 1; have hfz6_2 := xaE BK102.out 2; have hfz6_3 := xaE BK102.out 3; have hfz6_4 := xaE BK102.out 4; have hfz6_5 := xaE BK102.out 5; have hfz6_6 := xaE BK102.out 6; have hfz6_7 := xaE BK102.out 7; have hfz6_8 := xaE BK102.out 8; have hfz6_9 := xaE BK102.out 9; have hfz6_10 := xaE BK102.out 10))
 refine bodyPost_ret (results_cell_row rfl _ _ gb102 103 #[.int .i64 a0_0, .int .i64 a0_1, .int .i64 a0_2, .float .f64 0, .float .f64 0, .int .i64 0, .int .i64 0, .int .i64 0, .int .i64 0, .int .i64 0, .int .i64 0] (0, 0) _ rfl (by (with_reducible repeat (first | refine xaZ ?_ _ | refine xaP ?_ | refine xaT ?_ _)); refine xaN (cs := #[.int .i64 a0_0, .int .i64 a0_1, .int .i64 a0_2, .float .f64 0, .float .f64 0, .int .i64 0, .int .i64 0, .int .i64 0, .int .i64 0, .int .i64 0, .int .i64 0]) ?_ 10 _ rfl; (with_reducible repeat (first | refine xaZ ?_ _ | refine xaP ?_ | refine xaT ?_ _)); refine xaN (cs := #[.int .i64 a0_0, .int .i64 a0_1, .int .i64 a0_2, .float .f64 0, .float .f64 0, .int .i64 0, .int .i64 0, .int .i64 0, .int .i64 0, .int .i64 0, .int .i64 0]) ?_ 9 _ rfl; (with_reducible repeat (first | refine xaZ ?_ _ | refine xaP ?_ | refine xaT ?_ _)); refine xaN (cs := #[.int .i64 a0_0, .int .i64 a0_1, .int .i64 a0_2, .float .f64 0, .float .f64 0, .int .i64 0, .int .i64 0, .int .i64 0, .int .i64 0, .int .i64 0, .int .i64 0]) ?_ 8 _ rfl; (with_reducible repeat (first | refine xaZ ?_ _ | refine xaP ?_ | refine xaT ?_ _)); refine xaN (cs := #[.int .i64 a0_0, .int .i64 a0_1, .int .i64 a0_2, .float .f64 0, .float .f64 0, .int .i64 0, .int .i64 0, .int .i64 0, .int .i64 0, .int .i64 0, .int .i64 0]) ?_ 7 _ rfl; (with_reducible repeat (first | refine xaZ ?_ _ | refine xaP ?_ | refine xaT ?_ _)); refine xaN (cs := #[.int .i64 a0_0, .int .i64 a0_1, .int .i64 a0_2, .float .f64 0, .float .f64 0, .int .i64 0, .int .i64 0, .int .i64 0, .int .i64 0, .int .i64 0, .int .i64 0]) ?_ 6 _ rfl; (with_reducible repeat (first | refine xaZ ?_ _ | refine xaP ?_ | refine xaT ?_ _)); refine xaN (cs := #[.int .i64 a0_0, .int .i64 a0_1, .int .i64 a0_2, .float .f64 0, .float .f64 0, .int .i64 0, .int .i64 0, .int .i64 0, .int .i64 0, .int .i64 0, .int .i64 0]) ?_ 5 _ rfl; (with_reducible repeat (first | refine xaZ ?_ _ | refine xaP ?_ | refine xaT ?_ _)); refine xaN (cs := #[.int .i64 a0_0, .int .i64 a0_1, .int .i64 a0_2, .float .f64 0, .float .f64 0, .int .i64 0, .int .i64 0, .int .i64 0, .int .i64 0, .int .i64 0, .int .i64 0]) ?_ 4 _ rfl; (with_reducible repeat (first | refine xaZ ?_ _ | refine xaP ?_ | refine xaT ?_ _)); refine xaN (cs := #[.int .i64 a0_0, .int .i64 a0_1, .int .i64 a0_2, .float .f64 0, .float .f64 0, .int .i64 0, .int .i64 0, .int .i64 0, .int .i64 0, .int .i64 0, .int .i64 0]) ?_ 3 _ rfl; (with_reducible repeat (first | refine xaZ ?_ _ | refine xaP ?_ | refine xaT ?_ _)); refine xaN (cs := #[.int .i64 a0_0, .int .i64 a0_1, .int .i64 0, .float .f64 0, .float .f64 0, .int .i64 0, .int .i64 0, .int .i64 0, .int .i64 0, .int .i64 0, .int .i64 0]) ?_ 2 _ rfl; (with_reducible repeat (first | refine xaZ ?_ _ | refine xaP ?_ | refine xaT ?_ _)); refine xaN (cs := #[.int .i64 a0_0, .int .i64 0, .int .i64 0, .float .f64 0, .float .f64 0, .int .i64 0, .int .i64 0, .int .i64 0, .int .i64 0, .int .i64 0, .int .i64 0]) ?_ 1 _ rfl; (with_reducible repeat (first | refine xaZ ?_ _ | refine xaP ?_ | refine xaT ?_ _)); refine xaN (cs := #[.int .i64 0, .int .i64 0, .int .i64 0, .float .f64 0, .float .f64 0, .int .i64 0, .int .i64 0, .int .i64 0, .int .i64 0, .int .i64 0, .int .i64 0]) ?_ 0 _ rfl; (with_reducible repeat (first | refine xaZ ?_ _ | refine xaP ?_ | refine xaT ?_ _)); exact BK102.out) Tryz.underlying103 rfl (by kernel_rfl)) rfl ?_
 exact ⟨eW, bB⟩
end Go.Proofs.YtkabcgmegljebaaGreatDoor.Q
namespace Go.Proofs.YtkabcgmegljebaaGreatDoor.H
open Go.RowKit Go.Proofs.YtkabcgmegljebaaGreatDoorW.PrintWords Go.Proofs.YtkabcgmegljebaaGreatDoorW.PrintLast Go.Proofs.YtkabcgmegljebaaGreatDoorW.PrintMore
open Go.Proofs.YtkabcgmegljebaaGreatDoor.Q
theorem xgH (x : Nat) : Go.bits .andNot .u64 (x : Int) 9223372036854775808 = ((x % 9223372036854775808 : Nat) : Int) := by
 have h1 : ~~~ (BitVec.ofInt 64 9223372036854775808) = BitVec.ofNat 64 (2 ^ 63 - 1) := by decide
 have h2 : (BitVec.ofInt 64 (x : Int)).toNat = x % 18446744073709551616 := by
  rw [BitVec.ofInt_natCast, BitVec.toNat_ofNat]
 have h3 : ((BitVec.ofInt 64 (x : Int)) &&& ~~~ (BitVec.ofInt 64 9223372036854775808)).toNat = x % 9223372036854775808 := by
  rw [h1, BitVec.toNat_and, h2, BitVec.toNat_ofNat, Nat.mod_eq_of_lt (show 2 ^ 63 - 1 < 2 ^ 64 by decide), Nat.and_two_pow_sub_one_eq_mod]
  omega
 show IntKind.wrap .u64 (((BitVec.ofInt 64 (x : Int)) &&& ~~~ (BitVec.ofInt 64 9223372036854775808)).toNat : Int) = _
 rw [h3]
 have h4 : (x % 9223372036854775808 : Nat) < 9223372036854775808 := Nat.mod_lt _ (by decide)
 generalize x % 9223372036854775808 = n at h4 ⊢
 simp [IntKind.wrap, IntKind.bits, IntKind.signed]
 omega
def numB (x : Nat) : Bool := decide (x % 9223372036854775808 < 9218868437227405312)
def mulN (x y : Nat) : Nat := (floatBits .mul .f64 x y).getD 0
theorem xjV {x : Nat} (h : numB x = true) : ∃ s m i, Ieee.double.read x = .number s m i := by
 have h1 : x % 9223372036854775808 < 9218868437227405312 := of_decide_eq_true h
 unfold Ieee.Format.read
 rw [show Ieee.double.signWeight = 9223372036854775808 by decide, show Ieee.double.infRung = 9218868437227405312 by decide]
 simp only
 split
 ·
  exact ⟨_, _, _, rfl⟩
 ·
  first | exact ⟨_, _, _, rfl⟩ | (rw [if_pos h1]; exact ⟨_, _, _, rfl⟩)
theorem xfP {x y : Nat} (hx : numB x = true) (hy : numB y = true) : floatBits .mul .f64 x y = some (mulN x y) := by
 obtain ⟨s, m, i, e1⟩ := xjV hx
 obtain ⟨t, n, j, e2⟩ := xjV hy
 have h : floatBits .mul .f64 x y = some (Ieee.double.write (.number (s ^^ t) (m * n) (i + j))) := by
  show ((Ieee.double.read x).product (Ieee.double.read y)).map Ieee.double.write = _
  rw [e1, e2]; rfl
 unfold mulN
 rw [h]; rfl
theorem size_same (x : Nat) (w : World) : Calls Tryz.prog 140 #[.float .f64 x] w fun e w' => e = .returned (.int .u64 ((x % 9223372036854775808 : Nat) : Int)) ∧ w' = w := by
 have h := xgH x;have H := am h;clear h
 go_enter Tryz.func140, Tryz.ntmps140
 go_wp2_with (go_at_call 29; (with_reducible refine (xdD x _).mono ?_); rintro e w' ⟨rfl, rfl⟩)
 go_ret
 exact ⟨congrArg (fun b => Ending.returned (.int .u64 b)) H.out, rfl⟩
theorem xjE (x : Nat) (w : World) : Calls Tryz.prog 117 #[.float .f64 x] w fun e w' => ∃ c : Int, decide (c < 4) = numB x ∧ e = .returned (.int .i64 c) ∧ w' = w := by
 unfold numB
 have hs := size_same x w
 generalize hn : x % 9223372036854775808 = n at hs
 have HS := am hs;clear hs
 by_cases h0 : n = 0
 ·
  have t0 : ((n : Int) == 0) = true := by rw [h0]; rfl
  go_enter Tryz.func117, Tryz.ntmps117
  go_wp2_with (go_at_call 140; (with_reducible refine HS.out.mono ?_); rintro e w' ⟨rfl, rfl⟩)
  go_ret
  exact ⟨1, by subst h0; rfl, rfl, rfl⟩
 have t0 : ((n : Int) == 0) = false := by rw [beq_eq_false_iff_ne]; omega
 by_cases h1 : n < 4503599627370496
 ·
  have t1 : decide ((n : Int) < 4503599627370496) = true := by simp; omega
  go_enter Tryz.func117, Tryz.ntmps117
  go_wp2_with (go_at_call 140; (with_reducible refine HS.out.mono ?_); rintro e w' ⟨rfl, rfl⟩)
  go_ret
  exact ⟨2, by simp; omega, rfl, rfl⟩
 have t1 : decide ((n : Int) < 4503599627370496) = false := by simp; omega
 by_cases h2 : n < 9218868437227405312
 ·
  have t2 : decide ((n : Int) < 9218868437227405312) = true := by simp; omega
  go_enter Tryz.func117, Tryz.ntmps117
  go_wp2_with (go_at_call 140; (with_reducible refine HS.out.mono ?_); rintro e w' ⟨rfl, rfl⟩)
  go_ret
  exact ⟨3, by simp; omega, rfl, rfl⟩
 have t2 : decide ((n : Int) < 9218868437227405312) = false := by simp; omega
 by_cases h3 : n = 9218868437227405312
 ·
  have t3 : ((n : Int) == 9218868437227405312) = true := by rw [h3]; rfl
  go_enter Tryz.func117, Tryz.ntmps117
  go_wp2_with (go_at_call 140; (with_reducible refine HS.out.mono ?_); rintro e w' ⟨rfl, rfl⟩)
  go_ret
  exact ⟨4, by simp; omega, rfl, rfl⟩
 have t3 : ((n : Int) == 9218868437227405312) = false := by rw [beq_eq_false_iff_ne]; omega
 go_enter Tryz.func117, Tryz.ntmps117
 go_wp2_with (go_at_call 140; (with_reducible refine HS.out.mono ?_); rintro e w' ⟨rfl, rfl⟩)
 go_ret
 exact ⟨5, by simp; omega, rfl, rfl⟩
theorem xeL (x : Nat) (b : Bool) (hb : numB x = b) (w : World) : Calls Tryz.prog 97 #[.float .f64 x] w fun e w' => e = .returned (.bool b) ∧ w' = w := by
 have H1 := am hb;clear hb
 go_enter Tryz.func97, Tryz.ntmps97
 go_wp2_with (go_at_call 117; (with_reducible refine (xjE x _).mono ?_); rintro e w' ⟨c, hc, rfl, rfl⟩; rw [H1.out] at hc)
 go_ret
 exact ⟨rfl, rfl⟩
def scF (x : Nat) (f : S48) : S48 := ⟨f.f0, mulN x f.f1, f.f2⟩
theorem xlN (y : Nat) (A : Option Addr) (c : Nat) (l : List S48) (w : World) (hr : Kd.C k48 w A l.length l) (hl : l.length ≤ 4096) (hy : numB y = true) (hn : ∀ f ∈ l, numB f.f1 = true) (hok : ∀ f ∈ l, numB (mulN y f.f1) = true) :
  Calls Tryz.prog 74 #[.float .f64 y, .slice A l.length c] w fun e w' => ∃ v, e = .returned (.tuple #[v, .int .i64 0]) ∧ Kd.R k48 48 w' w.heap.size (fun _ => True) v (l.map (scF y)) ∧ Below w.heap.size w w' := by
 have HR := am hr;have HL := am hl;have HY := am hy
 have HB := am (Below.refl w.heap.size w)
 have HOK : xaA (∀ i (h : i < l.length), numB (mulN y l[i].f1) = true ∧ floatBits .mul .f64 y l[i].f1 = some (mulN y l[i].f1)) := ⟨fun i h => ⟨hok _ (List.getElem_mem h), xfP hy (hn _ (List.getElem_mem h))⟩⟩
 clear hr hl hy hn hok
 go_enter Tryz.func74, Tryz.ntmps74
 go_wp2_with (first | (go_at_call 97; (with_reducible refine (xeL y true HY.out _).mono ?_); rintro e w' ⟨rfl, hw_⟩; obtain rfl := hw_.symm) | ((with_reducible refine xaJ (N := 14) rfl ?_); refine Kd.xgT k48 _ 48 rfl (N := 14) rfl 24 _ _ rfl (l.length : Int) rfl rfl Tryz.underlying24 (.agg #[.int .i64 0, .float .f64 0, .int .i64 0]) 24 xeA rfl (by decide) (by omega) z48 (ok := fun _ => True) (okp := fun _ => True) (xeU _ _ _ z48) (fun _ hk => hk) trivial (by omega) (by have := HL.out; omega) (Below.refl _ _) (Nat.le_refl _) ?_; intro v0 w1 ho hb hg_ hnew_; clear hg_ hnew_; have HO := am ho; replace HB := am hb; clear ho hb))
 go_loopg [6, 17] (l.length) (fun kq v3 v11 w' => ∃ i : Nat, i ≤ l.length ∧ kq + i = l.length ∧ v11 = .int .i64 i ∧ xaA (Kd.R k48 48 w' w.heap.size (fun _ => True) v3 ((l.take i).map (scF y))) ∧ xaA (Below w.heap.size w w'))
 case atStart => exact ⟨0, by omega, by omega, rfl, ⟨by repeat (first | exact HO.out | apply Kd.xgU | apply Kd.xjM)⟩, ⟨by repeat (first | exact HB.out | apply xaG | apply xaK)⟩⟩
 case round =>
  obtain ⟨i, hi, hk, rfl, HO, HB⟩ := hrel
  by_cases hlt : i < l.length
  ·
   obtain ⟨ad, e, h0, h1, h2⟩ := xhA (Kd.xaQ HR.out HB.out) (i : Int) (by omega) (by omega)
   subst e
   rw [rd48 hlt] at h0 h1 h2
   rw [Int.toNat_natCast] at h0 h1 h2
   have HT := am (xdA (scF y) l i hlt)
   have hok := HOK.out i hlt
   obtain ⟨x, hx⟩ : ∃ x, x = l[i] := ⟨_, rfl⟩
   have HXX := am hx
   rw [← hx] at h0 h1 h2 hok
   clear hx
   have hmx : (i : Int) + 1 ≤ 9223372036854775807 := by have := HL.out; omega
   have hmul : ∀ t w, (binOp .mul t (.float .f64 y) (.float .f64 x.f1)).run Tryz.prog w = .ok (.float .f64 (mulN y x.f1)) w := fun t w => run_float_arith w .mul t .f64 y x.f1 (mulN y x.f1) hok.2
   have HNM := am hok.1;clear hok
   go_wp2_with (first | (go_at_call 97; (with_reducible refine (xeL (mulN y x.f1) true HNM.out _).mono ?_); rintro e w' ⟨rfl, hw_⟩; obtain rfl := hw_.symm) | ((with_reducible refine xaR (b := .append) (xs := #[.tmp 30, .tmp 32]) rfl ?_); at_builtin; refine Kd.xgJ k48 (w0 := w) w.heap.size rfl (.tmp 30) (.tmp 32) 24 48 (.agg #[.int .i64 0, .float .f64 0, .int .i64 0]) 24 rfl Tryz.underlying24 xeA rfl (by decide) (by omega) u6 ((l.take i).map (scF y)) (scF y x) [.int .i64 x.f0, .float .f64 (mulN y x.f1), .int .i64 x.f2] (fun _ => True) (fun _ => False) rfl ?aX (xeU _ _ _ (scF y x)) (fun _ hk => hk.elim) (fun _ _ => trivial) (Kd.xfJ HO.out _) (xaH HB.out _) (xeD (xaH HB.out _)) ?aL ?_; (case aX => show Value.slice (some ⟨wr.heap.size + 1, 0, none⟩) 1 1 = _; simp); (case aL => have := HL.out; simp only [List.length_map, List.length_take]; omega); intro v1 w2 ho hb hg hat; rw [HXX.out, ← HT.out] at ho; replace HO := am ho; replace HB := am hb; clear ho hb hg hat))
   go_roundg (gk - 1)
   case measure => omega
   case rel => exact ⟨i + 1, by omega, by omega, by go_num, HO, HB⟩
  ·
   go_wp2_with fail
   go_ret2
   have e : l.take i = l := List.take_of_length_le (by omega)
   exact ⟨_, rfl, by rw [← e]; exact HO.out, HB.out⟩
theorem xkK (y : Nat) (A : Option Addr) (c : Nat) (l : List S48) (w : World) (hr : Kd.C k48 w A l.length l) (hl : l.length ≤ 4096) (hy : numB y = true) (hn : ∀ f ∈ l, numB f.f1 = true) (hbad : ∃ f ∈ l, numB (mulN y f.f1) = false) :
  Calls Tryz.prog 74 #[.float .f64 y, .slice A l.length c] w fun e w' => e = .returned (.tuple #[.slice none 0 0, .int .i64 91]) ∧ Below w.heap.size w w' := by
 have HR := am hr;have HL := am hl;have HY := am hy
 have HB := am (Below.refl w.heap.size w)
 have HOK : xaA (∀ i (h : i < l.length), floatBits .mul .f64 y l[i].f1 = some (mulN y l[i].f1)) := ⟨fun i h => xfP hy (hn _ (List.getElem_mem h))⟩
 have HBAD : xaA (∃ i, ∃ h : i < l.length, numB (mulN y l[i].f1) = false) := ⟨by obtain ⟨f, hf, hb⟩ := hbad; obtain ⟨i, hi, rfl⟩ := List.getElem_of_mem hf; exact ⟨i, hi, hb⟩⟩
 clear hr hl hy hn hbad
 go_enter Tryz.func74, Tryz.ntmps74
 go_wp2_with (first | (go_at_call 97; (with_reducible refine (xeL y true HY.out _).mono ?_); rintro e w' ⟨rfl, hw_⟩; obtain rfl := hw_.symm) | ((with_reducible refine xaJ (N := 14) rfl ?_); refine Kd.xgT k48 _ 48 rfl (N := 14) rfl 24 _ _ rfl (l.length : Int) rfl rfl Tryz.underlying24 (.agg #[.int .i64 0, .float .f64 0, .int .i64 0]) 24 xeA rfl (by decide) (by omega) z48 (ok := fun _ => True) (okp := fun _ => True) (xeU _ _ _ z48) (fun _ hk => hk) trivial (by omega) (by have := HL.out; omega) (Below.refl _ _) (Nat.le_refl _) ?_; intro v0 w1 ho hb hg_ hnew_; clear hg_ hnew_; have HO := am ho; replace HB := am hb; clear ho hb))
 go_loopg [6, 17] (l.length) (fun kq v3 v11 w' => ∃ i : Nat, i ≤ l.length ∧ kq + i = l.length ∧ v11 = .int .i64 i ∧ xaA (∀ j (h : j < l.length), j < i → numB (mulN y l[j].f1) = true) ∧ xaA (Kd.R k48 48 w' w.heap.size (fun _ => True) v3 ((l.take i).map (scF y))) ∧ xaA (Below w.heap.size w w'))
 case atStart => exact ⟨0, by omega, by omega, rfl, ⟨fun j h h' => by omega⟩, ⟨by repeat (first | exact HO.out | apply Kd.xgU | apply Kd.xjM)⟩, ⟨by repeat (first | exact HB.out | apply xaG | apply xaK)⟩⟩
 case round =>
  obtain ⟨i, hi, hk, rfl, HSO, HO, HB⟩ := hrel
  by_cases hlt : i < l.length
  ·
   obtain ⟨ad, e, h0, h1, h2⟩ := xhA (Kd.xaQ HR.out HB.out) (i : Int) (by omega) (by omega)
   subst e
   rw [rd48 hlt] at h0 h1 h2
   rw [Int.toNat_natCast] at h0 h1 h2
   have HT := am (xdA (scF y) l i hlt)
   have hok := HOK.out i hlt
   obtain ⟨x, hx⟩ : ∃ x, x = l[i] := ⟨_, rfl⟩
   have HXX := am hx
   rw [← hx] at h0 h1 h2 hok
   clear hx
   have hmx : (i : Int) + 1 ≤ 9223372036854775807 := by have := HL.out; omega
   have hmul : ∀ t w, (binOp .mul t (.float .f64 y) (.float .f64 x.f1)).run Tryz.prog w = .ok (.float .f64 (mulN y x.f1)) w := fun t w => run_float_arith w .mul t .f64 y x.f1 (mulN y x.f1) hok
   clear hok
   by_cases hnm : numB (mulN y x.f1) = true
   ·
    have HNM := am hnm;clear hnm
    go_wp2_with (first | (go_at_call 97; (with_reducible refine (xeL (mulN y x.f1) true HNM.out _).mono ?_); rintro e w' ⟨rfl, hw_⟩; obtain rfl := hw_.symm) | ((with_reducible refine xaR (b := .append) (xs := #[.tmp 30, .tmp 32]) rfl ?_); at_builtin; refine Kd.xgJ k48 (w0 := w) w.heap.size rfl (.tmp 30) (.tmp 32) 24 48 (.agg #[.int .i64 0, .float .f64 0, .int .i64 0]) 24 rfl Tryz.underlying24 xeA rfl (by decide) (by omega) u6 ((l.take i).map (scF y)) (scF y x) [.int .i64 x.f0, .float .f64 (mulN y x.f1), .int .i64 x.f2] (fun _ => True) (fun _ => False) rfl ?aX (xeU _ _ _ (scF y x)) (fun _ hk => hk.elim) (fun _ _ => trivial) (Kd.xfJ HO.out _) (xaH HB.out _) (xeD (xaH HB.out _)) ?aL ?_; (case aX => show Value.slice (some ⟨wr.heap.size + 1, 0, none⟩) 1 1 = _; simp); (case aL => have := HL.out; simp only [List.length_map, List.length_take]; omega); intro v1 w2 ho hb hg hat; rw [HXX.out, ← HT.out] at ho; replace HO := am ho; replace HB := am hb; clear ho hb hg hat))
    go_roundg (gk - 1)
    case measure => omega
    case rel => exact ⟨i + 1, by omega, by omega, by go_num, ⟨fun j h h' => by
     rcases Nat.lt_or_ge j i with h1 | h1
     ·
      exact HSO.out j h h1
     ·
      obtain rfl : j = i := by omega
      rw [← HXX.out]; exact HNM.out⟩, HO, HB⟩
   ·
    have HNM := am (Bool.eq_false_iff.2 hnm)
    clear hnm
    go_wp2_with ((go_at_call 97; (with_reducible refine (xeL (mulN y x.f1) false HNM.out _).mono ?_); rintro e w' ⟨rfl, hw_⟩; obtain rfl := hw_.symm))
    go_ret2
    exact ⟨rfl, by repeat (first | exact HB.out | apply xaG | apply xaK | apply xaH)⟩
  ·
   exfalso
   obtain ⟨j, h, hb⟩ := HBAD.out
   have := HSO.out j h (by omega)
   rw [hb] at this; cases this
structure St where
 code : List S37
 loc : Int
 flows : List S48
 marks : List Int
 ended : Bool
 fault : Int
structure Mx (w : World) (base g : Nat) (F : Nat → Prop) (Ac : Option Addr) (cc : Nat) (Af : Option Addr) (cf : Nat) (Am : Option Addr) (cm : Nat) (s : St) : Prop where
 k : w.heap[g]? = some (.cells #[.slice Ac s.code.length cc, .int .i64 s.loc, .slice Af s.flows.length cf, .slice Am s.marks.length cm, .bool s.ended, .int .i64 s.fault] 85 (0, 0))
 c : Sl k37 37 w base (own Ac) Ac cc s.code
 f : Sl k48 48 w base F Af cf s.flows
 m : Sl (Kd.int .i64) 3 w base F Am cm s.marks
 hg : F g
 hF : ∀ k, F k → base ≤ k ∧ k < w.heap.size
 hc : ∀ k, own Ac k → ¬ F k
section
variable {w w1 : World} {base g : Nat} {F : Nat → Prop} {Ac : Option Addr} {cc : Nat} {Af : Option Addr} {cf : Nat} {Am : Option Addr} {cm : Nat} {s : St}
theorem Mx.below (h : Mx w base g F Ac cc Af cf Am cm s) (hb : Below w.heap.size w w1) : Mx w1 base g F Ac cc Af cf Am cm s :=
  ⟨xaD h.k hb, h.c.below hb, h.f.below hb, h.m.below hb, h.hg, fun k hk => ⟨(h.hF k hk).1, Nat.lt_of_lt_of_le (h.hF k hk).2 hb.size⟩, h.hc⟩
theorem Mx.alloc (h : Mx w base g F Ac cc Af cf Am cm s) (o : Obj) : Mx (w.alloc o) base g F Ac cc Af cf Am cm s := h.below (xaH (Below.refl _ _) o)
theorem Mx.drewN (h : Mx w base g F Ac cc Af cf Am cm s) (n : Nat) : Mx (w.drewN n) base g F Ac cc Af cf Am cm s := h.below (xaG (Below.refl _ _) n)
theorem Mx.drew (h : Mx w base g F Ac cc Af cf Am cm s) : Mx w.drew base g F Ac cc Af cf Am cm s := h.below (xaK (Below.refl _ _))
theorem Mx.other {G : Nat → Prop} (h : Mx w base g F Ac cc Af cf Am cm s) (hf : Fr G w w1) (hd : ∀ k, F k → ¬ G k) (hdc : ∀ k, own Ac k → ¬ G k) : Mx w1 base g F Ac cc Af cf Am cm s :=
  ⟨hf.blk h.k (hd g h.hg), h.c.fr hf hdc, h.f.fr hf hd, h.m.fr hf hd, h.hg, fun k hk => ⟨(h.hF k hk).1, Nat.lt_of_lt_of_le (h.hF k hk).2 hf.size⟩, h.hc⟩
theorem Mx.xbJ (h : Mx w base g F Ac cc Af cf Am cm s) : base ≤ w.heap.size := by have := h.hF g h.hg; omega
theorem Mx.mono {G : Nat → Prop} (h : Mx w base g F Ac cc Af cf Am cm s) (hG : ∀ k, F k → G k) (hb : ∀ k, G k → base ≤ k ∧ k < w.heap.size) (hcG : ∀ k, own Ac k → ¬ G k) : Mx w base g G Ac cc Af cf Am cm s :=
  ⟨h.k, h.c, h.f.mono (fun k h1 _ => hG k h1), h.m.mono (fun k h1 _ => hG k h1), hG g h.hg, hb, hcG⟩
theorem Mx.xbY (h : Mx w base g F Ac cc Af cf Am cm s) : ∀ k, own Ac k → k < w.heap.size := fun k hk => by
 obtain ⟨a, rfl, rfl⟩ := hk
 rcases h.c.row with ⟨h1, _⟩ | ⟨b, off, cur, inner, h1, _, _, h4, _⟩
 ·
  cases h1
 ·
  injection h1 with h1; subst h1; exact xaM h4
theorem Mx.hc_gr (h : Mx w base g F Ac cc Af cf Am cm s) (m : Nat) : ∀ k, own Ac k → ¬ Gr F w.heap.size m k := fun k hk hg => by
 rcases hg with h1 | h1
 ·
  exact h.hc k hk h1
 ·
  have := h.xbY k hk; omega
theorem Mx.grow {n n' : Nat} (h : Mx w1 base g (Gr F n' w1.heap.size) Ac cc Af cf Am cm s) (hn : n ≤ n') (hn' : n' ≤ w1.heap.size) (hb : base ≤ n := by first | assumption | (exact Mx.xbJ (xaA.out (by assumption)))) (hcn : ∀ k, own Ac k → k < n := by first | assumption | (exact Mx.xbY (xaA.out (by assumption)))) : Mx w1 base g (Gr F n w1.heap.size) Ac cc Af cf Am cm s :=
 h.mono (Gr.sub hn) (fun k hk => by
  rcases hk with hk | hk
  ·
   exact h.hF k (Or.inl hk)
  ·
   omega) (fun k hk hg => by
  rcases hg with h1 | h1
  ·
   exact h.hc k hk (Or.inl h1)
  ·
   have := hcn k hk; omega)
theorem gr_bd {n : Nat} (hF : ∀ k, F k → base ≤ k ∧ k < n) (hb : base ≤ n) (hn : n ≤ w.heap.size) : ∀ k, Gr F n w.heap.size k → base ≤ k ∧ k < w.heap.size := fun k hk => by
 rcases hk with hk | hk
 ·
  have := hF k hk; omega
 ·
  omega
theorem Sl.gr {α : Type} {d : Kd α} {e : TypeId} {A : Option Addr} {c n : Nat} {xs : List α} (h : Sl d e w base F A c xs) : Sl d e w base (Gr F n w.heap.size) A c xs := h.mono (fun k hk _ => Or.inl hk)
theorem Sl.gr2 {α : Type} {d : Kd α} {e : TypeId} {A : Option Addr} {c n n' : Nat} {xs : List α} (h : Sl d e w base (Gr F n' w.heap.size) A c xs) (hn : n ≤ n') : Sl d e w base (Gr F n w.heap.size) A c xs := h.mono (fun k hk _ => Gr.sub hn k hk)
theorem Mx.xiS (h : Mx w base g F Ac cc Af cf Am cm s) (hf : Fr (own Af) w w1) :
    w1.heap[g]? = some (.cells #[.slice Ac s.code.length cc, .int .i64 s.loc, .slice Af s.flows.length cf, .slice Am s.marks.length cm, .bool s.ended, .int .i64 s.fault] 85 (0, 0)) ∧ Sl k37 37 w1 base (own Ac) Ac cc s.code ∧ Sl (Kd.int .i64) 3 w1 base F Am cm s.marks ∧ Fr F w w1 :=
  ⟨hf.blk h.k (h.f.xeK h.k (by decide)), h.c.keep h.f (by decide) hf, h.m.keep h.f (by decide) hf, hf.mono (fun k _ hk => h.f.own_F k hk)⟩
theorem Mx.turn_m (h : Mx w base g F Ac cc Af cf Am cm s) (hf : Fr (own Am) w w1) :
    w1.heap[g]? = some (.cells #[.slice Ac s.code.length cc, .int .i64 s.loc, .slice Af s.flows.length cf, .slice Am s.marks.length cm, .bool s.ended, .int .i64 s.fault] 85 (0, 0)) ∧ Sl k37 37 w1 base (own Ac) Ac cc s.code ∧ Sl k48 48 w1 base F Af cf s.flows ∧ Fr F w w1 :=
  ⟨hf.blk h.k (h.m.xeK h.k (by decide)), h.c.keep h.m (by decide) hf, h.f.keep h.m (by decide) hf, hf.mono (fun k _ hk => h.m.own_F k hk)⟩
theorem Mx.put {cs : Array Value} {s' : St} (j : Nat) (u : Value) (hk : w.heap[g]? = some (.cells cs 85 (0, 0)))
  (he : cs.setIfInBounds j u = #[.slice Ac s'.code.length cc, .int .i64 s'.loc, .slice Af s'.flows.length cf, .slice Am s'.marks.length cm, .bool s'.ended, .int .i64 s'.fault])
  (hc : Sl k37 37 w base (own Ac) Ac cc s'.code) (hf : Sl k48 48 w base F Af cf s'.flows) (hm : Sl (Kd.int .i64) 3 w base F Am cm s'.marks)
  (hg : F g) (hF : ∀ k, F k → base ≤ k ∧ k < w.heap.size) (hcF : ∀ k, own Ac k → ¬ F k) : Mx (w.setCell ⟨g, j, none⟩ u) base g F Ac cc Af cf Am cm s' :=
 ⟨xaN hk j u he, hc.set hk (by decide) j u, hf.set hk (by decide) j u, hm.set hk (by decide) j u, hg, fun k h => by
  have h1 : (w.setCell ⟨g, j, none⟩ u).heap.size = w.heap.size := by simp
  rw [h1]; exact hF k h, hcF⟩
theorem blk6 {w : World} {g : Nat} {t : TypeId} {a b c d e f : Value} (h : w.heap[g]? = some (.cells #[a, b, c, d, e, f] t (0, 0))) : w.cell? ⟨g, 0, none⟩ = some a ∧ w.cell? ⟨g, 1, none⟩ = some b ∧ w.cell? ⟨g, 2, none⟩ = some c ∧ w.cell? ⟨g, 3, none⟩ = some d ∧ w.cell? ⟨g, 4, none⟩ = some e ∧ w.cell? ⟨g, 5, none⟩ = some f ∧ w.frozen? ⟨g, 0, none⟩ = false ∧ w.frozen? ⟨g, 1, none⟩ = false ∧ w.frozen? ⟨g, 2, none⟩ = false ∧ w.frozen? ⟨g, 3, none⟩ = false ∧ w.frozen? ⟨g, 4, none⟩ = false ∧ w.frozen? ⟨g, 5, none⟩ = false :=
  ⟨(xaB h 0).trans rfl, (xaB h 1).trans rfl, (xaB h 2).trans rfl, (xaB h 3).trans rfl, (xaB h 4).trans rfl, (xaB h 5).trans rfl, xaE h 0, xaE h 1, xaE h 2, xaE h 3, xaE h 4, xaE h 5⟩
end
def inW (a b : Int) (f : S48) : Bool := decide (a ≤ f.f0) && decide (f.f0 < b)
theorem xfC {α : Type} (p : α → Bool) (l : List α) (i : Nat) (h : i < l.length) : (l.take (i + 1)).filter p = (l.take i).filter p ++ (if p l[i] then [l[i]] else []) := by
  rw [List.take_succ_eq_append_getElem h, List.filter_append]
  simp [List.filter_cons]
theorem flowWindow (a b : Int) (A : Option Addr) (c : Nat) (l : List S48) (w : World) (hr : Kd.C k48 w A l.length l) (hl : l.length ≤ 4096) :
  Calls Tryz.prog 75 #[.slice A l.length c, .int .i64 a, .int .i64 b] w fun e w' => ∃ A' c', e = .returned (.slice A' (l.filter (inW a b)).length c') ∧ Kd.C k48 w' A' (l.filter (inW a b)).length (l.filter (inW a b)) ∧ Below w.heap.size w w' := by
 have HR := am hr;have HL := am hl
 have HB := am (Below.refl w.heap.size w)
 clear hr hl
 go_enter Tryz.func75, Tryz.ntmps75
 go_wp2_with fail
 go_loopg [7, 12] (l.length) (fun kq v3 v11 w' => ∃ i : Nat, i ≤ l.length ∧ kq + i = l.length ∧ v11 = .int .i64 i ∧ xaA (Kd.R k48 48 w' w.heap.size (fun _ => True) v3 ((l.take i).filter (inW a b))) ∧ xaA (Below w.heap.size w w'))
 case atStart => exact ⟨0, by omega, by omega, rfl, ⟨Kd.R_nil _ _ _ _ _⟩, ⟨by repeat (first | exact HB.out | apply xaG | apply xaK)⟩⟩
 case round =>
  obtain ⟨i, hi, hk, rfl, HO, HB⟩ := hrel
  by_cases hlt : i < l.length
  ·
   obtain ⟨ad, e, h0, h1, h2⟩ := xhA (Kd.xaQ HR.out HB.out) (i : Int) (by omega) (by omega)
   subst e
   rw [rd48 hlt] at h0 h1 h2
   rw [Int.toNat_natCast] at h0 h1 h2
   have HT := am (xfC (inW a b) l i hlt)
   obtain ⟨x, hx⟩ : ∃ x, x = l[i] := ⟨_, rfl⟩
   have HXX := am hx
   rw [← hx] at h0 h1 h2
   clear hx
   have hmx : (i : Int) + 1 ≤ 9223372036854775807 := by have := HL.out; omega
   rw [← HXX.out] at HT
   by_cases h1 : a ≤ x.f0
   ·
    have t1 : decide (a ≤ x.f0) = true := decide_eq_true h1
    have s1 : decide (x.f0 ≥ a) = true := decide_eq_true h1
    by_cases h2 : x.f0 < b
    ·
     have t2 : decide (x.f0 < b) = true := decide_eq_true h2
     have HI : xaA (inW a b x = true) := ⟨by unfold inW; rw [t1, t2]; rfl⟩
     go_wp2_with (((with_reducible refine xaR (b := .append) (xs := #[.tmp 26, .tmp 28]) rfl ?_); at_builtin; refine Kd.xgJ k48 (w0 := w) w.heap.size rfl (.tmp 26) (.tmp 28) 24 48 (.agg #[.int .i64 0, .float .f64 0, .int .i64 0]) 24 rfl Tryz.underlying24 xeA rfl (by decide) (by omega) u7 ((l.take i).filter (inW a b)) x [.int .i64 x.f0, .float .f64 x.f1, .int .i64 x.f2] (fun _ => True) (fun _ => False) rfl ?aX (xeU _ _ _ x) (fun _ hk => hk.elim) (fun _ _ => trivial) (Kd.xfJ HO.out _) (xaH HB.out _) (xeD (xaH HB.out _)) ?aL ?_; (case aX => show Value.slice (some ⟨wr.heap.size + 1, 0, none⟩) 1 1 = _; simp); (case aL => have := HL.out; have := List.length_filter_le (inW a b) (l.take i); simp only [List.length_take] at this; omega); intro v1 w2 ho hb hg hat; have h_ := HT.out; rw [HI.out, if_pos rfl] at h_; rw [← h_] at ho; clear h_; replace HO := am ho; replace HB := am hb; clear ho hb hg hat))
     go_roundg (gk - 1)
     case measure => omega
     case rel => exact ⟨i + 1, by omega, by omega, by go_num, HO, HB⟩
    ·
     have t2 : decide (x.f0 < b) = false := decide_eq_false h2
     have HI : xaA (inW a b x = false) := ⟨by unfold inW; rw [t1, t2]; rfl⟩
     go_wp2_with fail
     go_roundg (gk - 1)
     case measure => omega
     case rel => exact ⟨i + 1, by omega, by omega, by go_num, ⟨by have h_ := HT.out; rw [HI.out, if_neg (by decide), List.append_nil] at h_; rw [h_]; repeat (first | exact HO.out | apply Kd.xgU | apply Kd.xjM | apply Kd.xfJ)⟩, ⟨by repeat (first | exact HB.out | apply xaG | apply xaK | apply xaH)⟩⟩
   ·
    have t1 : decide (a ≤ x.f0) = false := decide_eq_false h1
    have s1 : decide (x.f0 ≥ a) = false := decide_eq_false h1
    have HI : xaA (inW a b x = false) := ⟨by unfold inW; rw [t1]; rfl⟩
    go_wp2_with fail
    go_roundg (gk - 1)
    case measure => omega
    case rel => exact ⟨i + 1, by omega, by omega, by go_num, ⟨by have h_ := HT.out; rw [HI.out, if_neg (by decide), List.append_nil] at h_; rw [h_]; repeat (first | exact HO.out | apply Kd.xgU | apply Kd.xjM | apply Kd.xfJ)⟩, ⟨by repeat (first | exact HB.out | apply xaG | apply xaK | apply xaH)⟩⟩
  ·
   have e : l.take i = l := List.take_of_length_le (by omega)
   rw [e] at HO
   obtain ⟨A1, c1, rfl, hs⟩ := Sl.of_R HO.out
   have HS := am hs;clear hs
   go_wp2_with (go_at_call 35; (with_reducible refine (xiE _ _ _ _ HS.out.le HS.out.lim).mono ?_); rintro e w' ⟨rfl, hw_⟩; obtain rfl := hw_.symm)
   go_ret
   exact ⟨_, _, rfl, HS.out.C, HB.out⟩
section
variable {w : World} {base g : Nat} {F : Nat → Prop} {Ac : Option Addr} {cc : Nat} {Af : Option Addr} {cf : Nat} {Am : Option Addr} {cm : Nat} {s : St}
theorem add_full (h : Mx w base g F Ac cc Af cf Am cm s) (hl : s.flows.length = 4096) (f0 : Int) (f1 : Nat) (f2 : Int) :
  Calls Tryz.prog 77 #[.pointer (some ⟨g, 0, none⟩), .agg #[.int .i64 f0, .float .f64 f1, .int .i64 f2]] w fun e w' => e = .returned (.int .i64 81) ∧ Below w.heap.size w w' := by
 have HX := am h
 have HB := am (Below.refl w.heap.size w)
 have hle : ((s.flows.length : Int) == 4096) = true := by rw [hl]; rfl
 clear h hl
 go_enter Tryz.func77, Tryz.ntmps77
 go_wp2_with ((with_reducible refine xaJ (N := 3) rfl ?_); refine bxv 3 #[.int .i64 f0, .float .f64 f1, .int .i64 f2] 48 ?_; intro gb hg w1 hbox hb; replace HX := am (HX.out.below hb); replace HB := bS hb; clear hb hbox hg; obtain ⟨c0, c1, c2, c3, c4, c5, z0, z1, z2, z3, z4, z5⟩ := blk6 HX.out.k)
 go_ret
 exact ⟨rfl, bB⟩
theorem add_ok (h : Mx w base g F Ac cc Af cf Am cm s) (hl : s.flows.length < 4096) (f0 : Int) (f1 : Nat) (f2 : Int) :
  Calls Tryz.prog 77 #[.pointer (some ⟨g, 0, none⟩), .agg #[.int .i64 f0, .float .f64 f1, .int .i64 f2]] w fun e w' => e = .returned (.int .i64 0) ∧ Fr F w w' ∧ ∃ Af' cf', Mx w' base g (Gr F w.heap.size w'.heap.size) Ac cc Af' cf' Am cm { s with flows := s.flows ++ [⟨f0, f1, f2⟩] } ∧ Old k48 48 w w' Af Af' s.flows.length := by
 have HX := am h
 have hle : ((s.flows.length : Int) == 4096) = false := by rw [beq_eq_false_iff_ne]; omega
 have HL := am hl;clear h hl
 go_enter Tryz.func77, Tryz.ntmps77
 go_wp2_with ((with_reducible refine xaJ (N := 3) rfl ?_); refine bxv 3 #[.int .i64 f0, .float .f64 f1, .int .i64 f2] 48 ?_; intro gb hg w1 hbox hb; have HX1 := am (HX.out.below hb); have HF := am ((Fr.refl F w).below hb); have HB := am hb; have BK := am hbox; have HG := am hg; clear hb hbox hg; obtain ⟨c0, c1, c2, c3, c4, c5, z0, z1, z2, z3, z4, z5⟩ := blk6 HX1.out.k; obtain ⟨b0, b1, b2, y0, y1, y2⟩ := blk3 BK)
 clear c0 c1 c2 c3 c4 c5 z0 z1 z2 z3 z4 z5 b0 b1 b2 y0 y1 y2;replace HX1 := am HX1.out.drew;replace HF := am HF.out.drew
 replace HB := am (xaK HB.out)
 replace BK := am (xaP BK.out)
 obtain ⟨c0, c1, c2, c3, c4, c5, z0, z1, z2, z3, z4, z5⟩ := blk6 HX1.out.k
 obtain ⟨b0, b1, b2, y0, y1, y2⟩ := blk3 BK
 refine xbL (n := 11) (S := fun w' => w'.cell? ⟨g, 2, none⟩ = some (.slice Af s.flows.length cf) ∧ w'.cell? ⟨gb, 0, none⟩ = some (.int .i64 f0) ∧ w'.cell? ⟨gb, 1, none⟩ = some (.float .f64 f1) ∧ w'.cell? ⟨gb, 2, none⟩ = some (.int .i64 f2)) (ds := [10]) #[false, false, false, false, false, false, false, false, false, false, false] (by kernel_rfl) rfl rfl ⟨c2, b0, b1, b2⟩ (fun hHeld => ?_)
 generalize w1.drew = w2 at *
 refine rP 0 ?_
 refine rP 1 ?_
 refine rP 2 ?_
 refine rP 3 ?_
 refine rT 4 ?_
 refine rT 5 ?_
 refine rO 6 (fun K hK => ?_)
 refine xbP (w1 := ?_) (v := ?_) (by rfl) rfl ?_ ?_
 rotate_left 2
 ·
  go_simp
  constructor
  ·
   rfl
  ·
   rfl
 have hA := HX1.out.alloc (.cells #[.int .i64 f0, .float .f64 f1, .int .i64 f2] 48)
 refine hK.out _ _ ⟨(xaB hA.k 2).trans rfl, (xaB (xaT BK.out _) 0).trans rfl, (xaB (xaT BK.out _) 1).trans rfl, (xaB (xaT BK.out _) 2).trans rfl⟩ (fun hHeld => ?_)
 clear hK K hA
 refine rN ?_
 refine rO 7 (fun K hK => ?_)
 refine Sl.xfA (by rfl) (.tmp 15) (.tmp 17) 24 (.agg #[.int .i64 0, .float .f64 0, .int .i64 0]) 24 rfl Tryz.underlying24 xeA rfl (by decide) (by omega) (ys := [(⟨f0, f1, f2⟩ : S48)]) rfl rfl (HX1.out.alloc (.cells #[.int .i64 f0, .float .f64 f1, .int .i64 f2] 48)).f (lit_C (k48_mk w2 (⟨f0, f1, f2⟩ : S48))) (HX1.out.alloc (.cells #[.int .i64 f0, .float .f64 f1, .int .i64 f2] 48)).xbJ (by have := HL.out; omega) ?_
 intro A1 n1 w3 ho hf hold
 have HOLD := am (hold.pre (xaH HB.out _))
 clear hold
 have H1 := am ((HX1.out.alloc (.cells #[.int .i64 f0, .float .f64 f1, .int .i64 f2] 48)).xiS hf)
 have HF1 := am ((HF.out.alloc (.cells #[.int .i64 f0, .float .f64 f1, .int .i64 f2] 48)).step H1.out.2.2.2)
 have hgb : ¬ own Af gb := fun hk => by have := (HX.out.hF _ (HX.out.f.own_F _ hk)).2; have := HG.out; omega
 replace BK := am (hf.blk (xaT BK.out _) hgb)
 have HO := am ho
 have HS : w.heap.size ≤ (w2.alloc (.cells #[.int .i64 f0, .float .f64 f1, .int .i64 f2] 48)).heap.size := (HF.out.alloc _).size
 clear ho hf hgb c0 c1 c2 c3 c4 c5 z0 z1 z2 z3 z4 z5 b0 b1 b2 y0 y1 y2 hHeld
 obtain ⟨c0, c1, c2, c3, c4, c5, z0, z1, z2, z3, z4, z5⟩ := blk6 H1.out.1
 obtain ⟨b0, b1, b2, y0, y1, y2⟩ := blk3 BK
 refine hK.out _ _ ⟨c2, b0, b1, b2⟩ (fun hHeld => ?_)
 clear hK K b0 b1 b2 y0 y1 y2 hHeld
 refine rN ?_
 refine rP 8 ?_
 refine rP 9 ?_
 refine rL 10 (fun K hK => ?_)
 refine skip_ (w1 := ?_) (by rfl) rfl ?_ ?_
 rotate_left
 ·
  go_simp
  rfl
 refine hK.out _ _ ?_
 clear hK K
 refine rD ?_
 go_wp2
 go_ret
 have hs : w.heap.size ≤ w3.heap.size := HF1.out.size
 refine ⟨rfl, HF1.out.set _ (Or.inl HX.out.hg), A1, n1, ?_, HOLD.out.set H1.out.1 (by decide) _ _⟩
 have e2 : ∀ u, (w3.setCell ⟨g, 2, none⟩ u).heap.size = w3.heap.size := fun u => by simp
 rw [e2, show s.flows.length + 1 = (s.flows ++ [(⟨f0, f1, f2⟩ : S48)]).length by simp]
 exact Mx.put 2 _ H1.out.1 rfl H1.out.2.1 (HO.out.gr2 HS) H1.out.2.2.1.gr (Or.inl HX.out.hg) (gr_bd HX.out.hF HX.out.xbJ hs) (HX.out.hc_gr _)
end
section
variable {w : World} {base g : Nat} {F : Nat → Prop} {Ac : Option Addr} {cc : Nat} {Af : Option Addr} {cf : Nat} {Am : Option Addr} {cm : Nat} {s : St}
theorem mark_ok (h : Mx w base g F Ac cc Af cf Am cm s) (hl : s.marks.length < 10000) (o0 : Int) (o1 o2 : Nat) (o3 o4 o5 o6 o7 o8 : Int) :
  Calls Tryz.prog 51 #[.pointer (some ⟨g, 0, none⟩), .agg #[.int .i64 o0, .float .f64 o1, .float .f64 o2, .int .i64 o3, .int .i64 o4, .int .i64 o5, .int .i64 o6, .int .i64 o7, .int .i64 o8]] w fun e w' => e = .returned (.int .i64 0) ∧ Fr F w w' ∧ ∃ Am' cm', Mx w' base g (Gr F w.heap.size w'.heap.size) Ac cc Af cf Am' cm' { s with marks := s.marks ++ [(s.flows.length : Int)] } := by
 have HX := am h;have HL := am hl;clear h hl
 go_enter Tryz.func51, Tryz.ntmps51
 go_wp2_with ((with_reducible refine xaJ (N := 3) rfl ?_); refine bxv 3 #[.int .i64 o0, .float .f64 o1, .float .f64 o2, .int .i64 o3, .int .i64 o4, .int .i64 o5, .int .i64 o6, .int .i64 o7, .int .i64 o8] 37 ?_; intro gb hg w1 hbox hb; have HX1 := am (HX.out.below hb); have HF := am ((Fr.refl F w).below hb); clear hb hbox hg)
 replace HX1 := am HX1.out.drew;replace HF := am HF.out.drew
 obtain ⟨c0, c1, c2, c3, c4, c5, z0, z1, z2, z3, z4, z5⟩ := blk6 HX1.out.k
 refine xbL (n := 15) (S := fun w' => w'.cell? ⟨g, 2, none⟩ = some (.slice Af s.flows.length cf) ∧ w'.cell? ⟨g, 3, none⟩ = some (.slice Am s.marks.length cm)) (ds := [14]) #[false, false, false, false, false, false, false, false, false, false, false, false, false, false, false] (by kernel_rfl) rfl rfl ⟨c2, c3⟩ (fun hHeld => ?_)
 generalize w1.drew = w2 at *
 refine rP 0 ?_
 refine rP 1 ?_
 refine rP 2 ?_
 refine rP 3 ?_
 refine rP 5 ?_
 refine rP 6 ?_
 refine rP 7 ?_
 refine rT 4 ?_
 refine rT 8 ?_
 refine rP 9 ?_
 refine rO 10 (fun K hK => ?_)
 refine xbP (w1 := ?_) (v := ?_) (by rfl) rfl ?_ ?_
 rotate_left 2
 ·
  go_simp
  constructor
  ·
   rfl
  ·
   rfl
 have hA := HX1.out.alloc (.cells #[.int .i64 (s.flows.length : Int)] 3)
 refine hK.out _ _ ⟨(xaB hA.k 2).trans rfl, (xaB hA.k 3).trans rfl⟩ (fun hHeld => ?_)
 clear hK K hA
 refine rN ?_
 refine rO 11 (fun K hK => ?_)
 refine Sl.xfA (by rfl) (.tmp 9) (.tmp 15) 49 (.int .i64 0) 8 rfl Tryz.underlying49 info3 rfl (by decide) (by omega) (ys := [(s.flows.length : Int)]) rfl rfl (HX1.out.alloc (.cells #[.int .i64 (s.flows.length : Int)] 3)).m (lit_C (d := Kd.int .i64) (cs := [.int .i64 (s.flows.length : Int)]) rfl) (HX1.out.alloc (.cells #[.int .i64 (s.flows.length : Int)] 3)).xbJ (by have := HL.out; omega) ?_
 intro A1 n1 w3 ho hf _
 have H1 := am ((HX1.out.alloc (.cells #[.int .i64 (s.flows.length : Int)] 3)).turn_m hf)
 have HF1 := am ((HF.out.alloc (.cells #[.int .i64 (s.flows.length : Int)] 3)).step H1.out.2.2.2)
 have HO := am ho
 have HS : w.heap.size ≤ (w2.alloc (.cells #[.int .i64 (s.flows.length : Int)] 3)).heap.size := (HF.out.alloc _).size
 clear ho hf c0 c1 c2 c3 c4 c5 z0 z1 z2 z3 z4 z5 hHeld
 obtain ⟨c0, c1, c2, c3, c4, c5, z0, z1, z2, z3, z4, z5⟩ := blk6 H1.out.1
 refine hK.out _ _ ⟨c2, c3⟩ (fun hHeld => ?_)
 clear hK K hHeld
 refine rN ?_
 refine rP 12 ?_
 refine rP 13 ?_
 refine rL 14 (fun K hK => ?_)
 refine skip_ (w1 := ?_) (by rfl) rfl ?_ ?_
 rotate_left
 ·
  go_simp
  rfl
 refine hK.out _ _ ?_
 clear hK K
 refine rD ?_
 go_wp2
 go_ret
 have hs : w.heap.size ≤ w3.heap.size := HF1.out.size
 refine ⟨rfl, HF1.out.set _ (Or.inl HX.out.hg), A1, n1, ?_⟩
 have e2 : ∀ u, (w3.setCell ⟨g, 3, none⟩ u).heap.size = w3.heap.size := fun u => by simp
 rw [e2, show s.marks.length + 1 = (s.marks ++ [(s.flows.length : Int)]).length by simp]
 exact Mx.put 3 _ H1.out.1 rfl H1.out.2.1 H1.out.2.2.1.gr (HO.out.gr2 HS) (Or.inl HX.out.hg) (gr_bd HX.out.hF HX.out.xbJ hs) (HX.out.hc_gr _)
theorem pay_full (h : Mx w base g F Ac cc Af cf Am cm s) (hl : s.flows.length = 4096) (o0 : Int) (o1 o2 : Nat) (o3 o4 o5 o6 o7 o8 : Int) :
  Calls Tryz.prog 52 #[.pointer (some ⟨g, 0, none⟩), .agg #[.int .i64 o0, .float .f64 o1, .float .f64 o2, .int .i64 o3, .int .i64 o4, .int .i64 o5, .int .i64 o6, .int .i64 o7, .int .i64 o8]] w fun e w' => e = .returned (.int .i64 81) ∧ Below w.heap.size w w' := by
 have HX := am h;have HL := am hl
 have HB := am (Below.refl w.heap.size w)
 clear h hl
 go_enter Tryz.func52, Tryz.ntmps52
 go_wp2_with (first | ((with_reducible refine xaJ (N := 3) rfl ?_); refine bxv 3 #[.int .i64 o0, .float .f64 o1, .float .f64 o2, .int .i64 o3, .int .i64 o4, .int .i64 o5, .int .i64 o6, .int .i64 o7, .int .i64 o8] 37 ?_; intro gb hg w1 hbox hb; replace HX := am (HX.out.below hb); replace HB := bS hb; have HY := am hbox; clear hb hbox hg; obtain ⟨_,_,_,_,_,_,_,_,_,_,_,_,_,_,_,_,_,_⟩ := blk9 HY) | (go_at_call 77; (with_reducible refine (add_full HX.out HL.out _ _ _).mono ?_); rintro e w2 ⟨rfl, hb⟩; replace HB := bS hb; clear hb))
 go_ret
 exact ⟨rfl, bB⟩
theorem pay_ok (h : Mx w base g F Ac cc Af cf Am cm s) (hl : s.flows.length < 4096) (o0 : Int) (o1 o2 : Nat) (o3 o4 o5 o6 o7 o8 : Int) :
  Calls Tryz.prog 52 #[.pointer (some ⟨g, 0, none⟩), .agg #[.int .i64 o0, .float .f64 o1, .float .f64 o2, .int .i64 o3, .int .i64 o4, .int .i64 o5, .int .i64 o6, .int .i64 o7, .int .i64 o8]] w fun e w' => e = .returned (.int .i64 0) ∧ Fr F w w' ∧ ∃ Af' cf', Mx w' base g (Gr F w.heap.size w'.heap.size) Ac cc Af' cf' Am cm { s with flows := s.flows ++ [⟨o3, o1, o5⟩] } := by
 have HX := am h;have HL := am hl;clear h hl
 go_enter Tryz.func52, Tryz.ntmps52
 go_wp2_with (first | ((with_reducible refine xaJ (N := 3) rfl ?_); refine bxv 3 #[.int .i64 o0, .float .f64 o1, .float .f64 o2, .int .i64 o3, .int .i64 o4, .int .i64 o5, .int .i64 o6, .int .i64 o7, .int .i64 o8] 37 ?_; intro gb hg w1 hbox hb; have HX1 := am (HX.out.below hb); have HF := am ((Fr.refl F w).below hb); have HY := am hbox; clear hb hbox hg; obtain ⟨_,_,_,_,_,_,_,_,_,_,_,_,_,_,_,_,_,_⟩ := blk9 HY) | (go_at_call 77; (with_reducible refine (add_ok HX1.out HL.out _ _ _).mono ?_); rintro e w2 ⟨rfl, hf, A1, n1, hx, _⟩; have HF1 := am hf; have HX2 := am hx; clear hf hx))
 go_ret
 exact ⟨rfl, HF.out.step HF1.out, A1, n1, HX2.out.grow HF.out.size HF1.out.size⟩
end
section
variable {w : World} {base g : Nat} {F : Nat → Prop} {Ac : Option Addr} {cc : Nat} {Af : Option Addr} {cf : Nat} {Am : Option Addr} {cm : Nat} {s : St}
theorem xkT (h : Mx w base g F Ac cc Af cf Am cm s) (ms : List Int) (m : Nat) (hms : s.marks = ms ++ [(m : Int)]) (hm : m ≤ s.flows.length) (hl : ms.length < 10000) :
  Calls Tryz.prog 78 #[.pointer (some ⟨g, 0, none⟩)] w fun e w' => ∃ A', e = .returned (.tuple #[.int .i64 m, .slice A' (s.flows.length - m) (cf - m)]) ∧ Fr F w w' ∧ Mx w' base g F Ac cc Af cf Am cm { s with marks := ms } ∧ ∀ w1 G, Sl k48 48 w1 base G Af cf s.flows → Kd.C k48 w1 A' (s.flows.length - m) (s.flows.drop m) := by
 have HX := am h
 have hlen : s.marks.length = ms.length + 1 := by rw [hms]; simp
 have hw : IntKind.i64.wrap ((s.marks.length : Int) - 1) = (ms.length : Int) := by rw [hlen, i64_w]; unfold wrap64; omega
 obtain ⟨ad, e1, hx⟩ := Kd.at_int h.m.C (ms.length : Int) (by omega) (by omega)
 subst e1
 have hrd : rd s.marks (ms.length : Int) = (m : Int) := by rw [hms]; simp [rd]
 rw [hrd, Int.toNat_natCast] at hx
 have HH := am hlen;have HM := am hms;have HW := am hw
 have p1 : (0 : Int) ≤ (ms.length : Int) := by omega
 have p2 : (ms.length < s.marks.length) = True := by simp; omega
 have p3 : decide (ms.length < s.marks.length) = true := by simp; omega
 have q1 : ms.length ≤ cm := by have := h.m.le; omega
 have q2 : s.flows.length ≤ cf := h.f.le
 have q3 : m ≤ cf := by omega
 obtain ⟨c0, c1, c2, c3, c4, c5, z0, z1, z2, z3, z4, z5⟩ := blk6 h.k
 have hX : ∀ a b, Mx (((w.drewN a).setCell ⟨g, 3, none⟩ (.slice (some ad) ms.length cm)).drewN b) base g F Ac cc Af cf (some ad) cm { s with marks := ms } := fun a b =>
  (Mx.put (s' := { s with marks := ms }) 3 (.slice (some ad) ms.length cm) (h.drewN a).k rfl (h.drewN a).c (h.drewN a).f (by
   have h1 := (h.drewN a).m.head ms.length cm (show ms.length ≤ s.marks.length by omega) (by have := h.m.le; omega) (Nat.le_refl _)
   rwa [show s.marks.take ms.length = ms by rw [hms]; simp] at h1) h.hg (h.drewN a).hF h.hc).drewN b
 have hC : ∀ w1 G, Sl k48 48 w1 base G Af cf s.flows → Kd.C k48 w1 (if cf = m then Af else Af.map (·.add (m * 3))) (s.flows.length - m) (s.flows.drop m) := fun w1 G hs => by
  have h1 := Kd.C_drop hs.C hm q2
  rwa [List.length_drop] at h1
 have HHX := am hX;have HHC := am hC;clear h hms hrd hlen hX hC
 by_cases hcm : cf = m
 all_goals
  first | subst hcm | skip
  go_enter Tryz.func78, Tryz.ntmps78
  go_wp2
  go_quiet (fail)
  go_wp2
  refine xbL (n := 15) (S := fun w' => w'.cell? ⟨g, 3, none⟩ = some (.slice (some ad) s.marks.length cm)) (ds := [14]) #[false, false, false, false, false, false, false, false, false, false, false, false, false, false, false] (by kernel_rfl) rfl rfl (by go_simp) (fun hHeld => ?_)
  refine rP 0 ?_
  refine rP 1 ?_
  refine rP 2 ?_
  refine rP 3 ?_
  refine rP 5 ?_
  refine rP 6 ?_
  refine rP 7 ?_
  refine rT 4 ?_
  refine rT 8 ?_
  refine rP 9 ?_
  refine rP 10 ?_
  refine rP 11 ?_
  refine rP 12 ?_
  refine rP 13 ?_
  refine rL 14 (fun K hK => ?_)
  refine skip_ (w1 := ?_) (by rfl) rfl ?_ ?_
  rotate_left
  ·
   go_simp
   rfl
  refine hK.out _ _ ?_
  clear hK K
  refine rD ?_
  go_wp2
  go_quiet (fail)
  go_wp2
  go_ret2
  have h1 := HHC.out
  first
   | (rw [if_neg hcm] at h1; exact ⟨_, rfl, (((Fr.refl F w).drewN _).set _ (Or.inl HX.out.hg)).drewN _, HHX.out _ _, h1⟩)
   | (simp only [if_true] at h1; exact ⟨Af, by rw [show s.flows.length - cf = 0 by omega, Nat.sub_self]; rfl, (((Fr.refl F w).drewN _).set _ (Or.inl HX.out.hg)).drewN _, HHX.out _ _, h1⟩)
theorem xhB (h : Mx w base g F Ac cc Af cf Am cm s) (ms : List Int) (m : Nat) (hms : s.marks = ms ++ [(m : Int)]) (hm : m ≤ s.flows.length) (hl : ms.length < 10000) :
  Calls Tryz.prog 78 #[.pointer (some ⟨g, 0, none⟩)] w fun e w' => ∃ A', e = .returned (.tuple #[.int .i64 m, .slice A' (s.flows.length - m) (cf - m)]) ∧ Fr F w w' ∧ Mx w' base g F Ac cc Af cf Am cm { s with marks := ms } ∧ Kd.C k48 w' A' (s.flows.length - m) (s.flows.drop m) := by
 refine (xkT h ms m hms hm hl).mono ?_
 rintro e w' ⟨A', rfl, h1, h2, h3⟩
 exact ⟨A', rfl, h1, h2, h3 _ _ h2.f⟩
end
end Go.Proofs.YtkabcgmegljebaaGreatDoor.H
