/- Contracts and facts of functions of the program, joined in one text. -/
import Derived.Test.YtkabcgmegljebaaGreatDoorRGH
import Derived.Test.YtkabcgmegljebaaGreatDoorRGE
import Derived.Laws.FloatArith
import Derived.Test.YtkabcgmegljebaaGreatDoorRGA
import Derived.Test.YtkabcgmegljebaaGreatDoorRGD
import Derived.Test.YtkabcgmegljebaaGreatDoorRGG
set_option maxHeartbeats 8000000
set_option maxRecDepth 100000
set_option linter.unusedVariables false
set_option linter.unusedSimpArgs false
namespace Go.Proofs.YtkabcgmegljebaaGreatDoor.H
open Go.RowKit Go.Proofs.YtkabcgmegljebaaGreatDoorW.PrintWords Go.Proofs.YtkabcgmegljebaaGreatDoorW.PrintLast Go.Proofs.YtkabcgmegljebaaGreatDoorW.PrintMore
open Go.Proofs.YtkabcgmegljebaaGreatDoor.Q
open Ieee
theorem c_bin : double.binade = 4503599627370496 := by decide
theorem c_inf : double.infRung = 9218868437227405312 := by decide
theorem c_sw : double.signWeight = 9223372036854775808 := by decide
def Sound (x : Nat) : Prop := (∃ s m i, double.read x = .number s m i) ∨ ∃ s, double.read x = .infinity s
theorem xiR (s : Bool) {r : Nat} (h : r ≤ 9218868437227405312) : Sound (double.word s r) := by
 have hm : double.word s r % 9223372036854775808 = r := by
  unfold Format.word; rw [c_sw]; split <;> omega
 unfold Sound Format.read
 rw [c_sw, c_bin, c_inf]
 simp only [hm]
 by_cases h1 : r < 4503599627370496
 ·
  rw [if_pos h1]; exact Or.inl ⟨_, _, _, rfl⟩
 ·
  rw [if_neg h1]
  by_cases h2 : r < 9218868437227405312
  ·
   rw [if_pos h2]; exact Or.inl ⟨_, _, _, rfl⟩
  ·
   rw [if_neg h2, if_pos (by omega)]; exact Or.inr ⟨_, rfl⟩
theorem near_sound (s : Bool) (m : Nat) (i : Int) : Sound (double.nearest s m i) := by
 unfold Format.nearest
 dsimp only
 split
 ·
  exact xiR _ (by omega)
 ·
  exact xiR _ (by rw [c_inf]; exact Nat.min_le_right _ _)
theorem int_sound (n : Int) : Sound (floatOfInt .f64 n) := near_sound _ _ _
def quoN (p q : Int) : Nat := (floatBits .quo .f64 (floatOfInt .f64 p) (floatOfInt .f64 q)).getD 0
theorem quo_some (p : Int) {q : Int} (hq : ∃ s m i, double.read (floatOfInt .f64 q) = .number s m i ∧ m ≠ 0) : floatBits .quo .f64 (floatOfInt .f64 p) (floatOfInt .f64 q) = some (quoN p q) := by
 obtain ⟨t, n, j, e2, hn⟩ := hq
 have h : ∃ r, floatBits .quo .f64 (floatOfInt .f64 p) (floatOfInt .f64 q) = some r := by
  show ∃ r, ((double.read (floatOfInt .f64 p)).quotient (double.fractionBits + 2) (double.read (floatOfInt .f64 q))).map double.write = some r
  rw [e2]
  rcases int_sound p with ⟨s, m, i, e1⟩ | ⟨s, e1⟩
  ·
   rw [e1]; unfold Datum.quotient; simp only; rw [if_neg hn]; exact ⟨_, rfl⟩
  ·
   rw [e1]; exact ⟨_, rfl⟩
 obtain ⟨r, hr⟩ := h
 unfold quoN
 rw [hr]; rfl
theorem q360 : ∃ s m i, double.read (floatOfInt .f64 360) = .number s m i ∧ m ≠ 0 := ⟨_, _, _, rfl, by decide +kernel⟩
theorem q365 : ∃ s m i, double.read (floatOfInt .f64 365) = .number s m i ∧ m ≠ 0 := ⟨_, _, _, rfl, by decide +kernel⟩
theorem qact : ∃ s m i, double.read (floatOfInt .f64 133590) = .number s m i ∧ m ≠ 0 := ⟨_, _, _, rfl, by decide +kernel⟩
theorem up_den (kind a b : Int) : ((N.up kind a b).2.1 = 360 ∨ (N.up kind a b).2.1 = 365 ∨ (N.up kind a b).2.1 = 133590) ∧ (N.up kind a b).2.2 = 0 := by
 unfold N.up
 repeat' split
 all_goals simp
theorem frac_den {kind a b : Int} (h : (N.frac kind a b).2.2 = 0) : ∃ s m i, double.read (floatOfInt .f64 (N.frac kind a b).2.1) = .number s m i ∧ m ≠ 0 := by
 have hu : ∀ x y, ∃ s m i, double.read (floatOfInt .f64 (N.up kind x y).2.1) = .number s m i ∧ m ≠ 0 := fun x y => by
  rcases (up_den kind x y).1 with e | e | e <;> rw [e]
  ·
   exact q360
  ·
   exact q365
  ·
   exact qact
 unfold N.frac at h ⊢
 by_cases h1 : ¬ ((0 ≤ a ∧ a ≤ 109572) ∧ (0 ≤ b ∧ b ≤ 109572))
 ·
  rw [if_pos h1] at h; cases h
 ·
  rw [if_neg h1] at h ⊢
  by_cases h2 : b < a
  ·
   rw [if_pos h2]; exact hu b a
  ·
   rw [if_neg h2]; exact hu a b
def yearF (kind a b : Int) : Nat := quoN (N.frac kind a b).1 (N.frac kind a b).2.1
def nanV (x y : Nat) (w : World) : Nat := (Question.nanBits .f64 x y).cut (w.tape w.drawn (.nanBits .f64 x y))
theorem nan_run {x y : Nat} (h : floatBits .mul .f64 x y = none) (t : TypeId) (w : World) : (binOp .mul t (.float .f64 x) (.float .f64 y)).run Tryz.prog w = .ok (.float .f64 (nanV x y w)) w.drew := by
  unfold floatBits at h
  simp [binOp, Op.floatArith, h, Question.forced, nanV]
theorem nan_num (x y : Nat) (w : World) : numB (nanV x y w) = false := by
 have h : ∀ t : Nat, ¬ (t % 2 * 2 ^ 63 + 0x7ff0000000000000 + 1 + t / 2 % (2 ^ 52 - 1)) % 9223372036854775808 < 9218868437227405312 := fun t => by
  have h1 : t / 2 % (2 ^ 52 - 1) < 4503599627370495 := Nat.mod_lt _ (by decide)
  generalize t / 2 % (2 ^ 52 - 1) = r at h1 ⊢
  generalize t % 2 = s
  omega
 exact decide_eq_false (h (w.tape w.drawn (.nanBits .f64 x y)))
theorem xmA (kind a b : Int) (hk : 1 ≤ kind ∧ kind ≤ 5) (he : (N.frac kind a b).2.2 = 0) (w : World) :
  Calls Tryz.prog 143 #[.int .i64 kind, .agg #[.int .i64 0, .slice none 0 0], .int .i64 a, .int .i64 b] w fun e w' => e = .returned (.tuple #[.float .f64 (yearF kind a b), .int .i64 0]) ∧ Below w.heap.size w w' := by
 obtain ⟨k, hf⟩ := N.cFrac kind 0 [] a b hk
 have hq := quo_some (N.frac kind a b).1 (frac_den he)
 have hf' := hf k (Nat.le_refl _)
 obtain ⟨r, hr⟩ : ∃ r, r = yearF kind a b := ⟨_, rfl⟩
 rw [← hr]
 have hq' : floatBits .quo .f64 (floatOfInt .f64 (N.frac kind a b).1) (floatOfInt .f64 (N.frac kind a b).2.1) = some r := by rw [hr]; exact hq
 obtain ⟨⟨p, q, e⟩, hx⟩ : ∃ x, x = N.frac kind a b := ⟨_, rfl⟩
 rw [← hx] at hf' hq' he
 obtain rfl : e = 0 := he
 have hop : ∀ t w, (binOp .quo t (.float .f64 (floatOfInt .f64 p)) (.float .f64 (floatOfInt .f64 q))).run Tryz.prog w = .ok (.float .f64 r) w := fun t w => run_float_arith w .quo t .f64 _ _ _ hq'
 have hF : ∀ w, Calls Tryz.prog 165 #[.int .i64 kind, .agg #[.int .i64 0, .slice none 0 0], .int .i64 a, .int .i64 b] w fun e w' => e = .returned (.tuple #[.int .i64 p, .int .i64 q, .int .i64 0]) ∧ Below w.heap.size w w' := fun w => xaL.calls k kind 0 none 0 [] a b p q 0 w (Kd.C_nil _ _) (Nat.le_refl _) hf'
 have HF := am hF;clear hx hr hq hq' hf hf' hF hk
 have B1 := am (xbF w (.cells #[.int .i64 0, .slice none 0 0] 115))
 have HB1 := am (xaH (Below.refl w.heap.size w) (.cells #[.int .i64 0, .slice none 0 0] 115))
 obtain ⟨c0, c1, z0, z1⟩ := blk2 B1
 go_enter Tryz.func143, Tryz.ntmps143
 go_wp2_with (go_at_call 165; (with_reducible refine (HF.out _).mono ?_); rintro e w2 ⟨rfl, hb⟩; have HB2 := am (HB1.out.trans (hb.mono HB1.out.size)); clear hb)
 go_ret2
 exact ⟨rfl, HB2.out⟩
end Go.Proofs.YtkabcgmegljebaaGreatDoor.H
namespace Go.Proofs.YtkabcgmegljebaaGreatDoor.H
open Go.RowKit Go.Proofs.YtkabcgmegljebaaGreatDoorW.PrintWords Go.Proofs.YtkabcgmegljebaaGreatDoorW.PrintLast Go.Proofs.YtkabcgmegljebaaGreatDoorW.PrintMore
open Go.Proofs.YtkabcgmegljebaaGreatDoor.Q
theorem frac_in {kind a b : Int} (h : (0 ≤ a ∧ a ≤ 109572) ∧ (0 ≤ b ∧ b ≤ 109572)) : (N.frac kind a b).2.2 = 0 := by
 unfold N.frac
 rw [if_neg (fun g => g h)]
 split
 ·
  exact (up_den _ _ _).2
 ·
  exact (up_den _ _ _).2
theorem size48 : (Tryz.prog.info? 48).map (·.size) = some 3 := by kernel_rfl
def paidF (kind cur : Int) (x y : Nat) (p : S145) : S48 × Int :=
 match floatBits .mul .f64 (mulN x y) (yearF kind p.f2 p.f3) with
 | some r => if numB r = true then (⟨p.f4, r, cur⟩, 0) else (⟨0, 0, 0⟩, 91)
 | none => (⟨0, 0, 0⟩, 91)
theorem paid_num (kind cur : Int) (x y : Nat) (a b n : Int) (p : S145) (hk : 1 ≤ kind ∧ kind ≤ 5) (hx : numB x = true) (hy : numB y = true) (hp : (0 ≤ p.f2 ∧ p.f2 ≤ 109572) ∧ (0 ≤ p.f3 ∧ p.f3 ≤ 109572)) (w : World) (r : Nat) (hr : floatBits .mul .f64 (mulN x y) (yearF kind p.f2 p.f3) = some r) (hn : numB r = true) :
  Calls Tryz.prog 119 #[.agg #[.int .i64 1, .int .i64 kind, .int .i64 cur, .float .f64 x, .float .f64 y, .int .i64 a, .int .i64 b, .int .i64 n, .int .i64 3, .int .i64 1, .int .i64 0, .int .i64 0, .int .i64 0, .int .i64 0, .slice none 0 0], .agg #[.int .i64 p.f0, .int .i64 p.f1, .int .i64 p.f2, .int .i64 p.f3, .int .i64 p.f4], .float .f64 y] w fun e w' => e = .returned (.tuple #[.agg #[.int .i64 p.f4, .float .f64 r, .int .i64 cur], .int .i64 0]) ∧ Below w.heap.size w w' := by
 have HB := am (Below.refl w.heap.size w)
 have hY := fun w => xmA kind p.f2 p.f3 hk (frac_in hp) w
 have hm := xfP hx hy
 obtain ⟨u, hu⟩ : ∃ u, u = mulN x y := ⟨_, rfl⟩
 obtain ⟨v, hv⟩ : ∃ v, v = yearF kind p.f2 p.f3 := ⟨_, rfl⟩
 rw [← hu, ← hv] at hr
 have hop2 : ∀ t w, (binOp .mul t (.float .f64 u) (.float .f64 v)).run Tryz.prog w = .ok (.float .f64 r) w := fun t w => run_float_arith w .mul t .f64 u v r hr
 have HN := am hn;clear hr hn
 rw [← hu] at hm
 rw [← hv] at hY
 have hop : ∀ t w, (binOp .mul t (.float .f64 x) (.float .f64 y)).run Tryz.prog w = .ok (.float .f64 u) w := fun t w => run_float_arith w .mul t .f64 x y u hm
 have HY := am hY;clear hY hm hu hv hk hx hy hp
 go_enter Tryz.func119, Tryz.ntmps119
 go_wp2_with (first | ((with_reducible refine xaJ (N := 3) rfl ?_); refine bxv 3 #[.int .i64 1, .int .i64 kind, .int .i64 cur, .float .f64 x, .float .f64 y, .int .i64 a, .int .i64 b, .int .i64 n, .int .i64 3, .int .i64 1, .int .i64 0, .int .i64 0, .int .i64 0, .int .i64 0, .slice none 0 0] 158 ?_; intro gl hg w1 hbox hb; have BL := am hbox; replace HB := am (xaC HB.out hb); clear hb hbox hg; have cgl_ := cz15 BL) | ((with_reducible refine xaJ (N := 4) rfl ?_); refine bxv 4 #[.int .i64 p.f0, .int .i64 p.f1, .int .i64 p.f2, .int .i64 p.f3, .int .i64 p.f4] 145 ?_; intro gp hg w2 hbox hb; have BP := am hbox; replace HB := am (xaC HB.out hb); replace BL := am (xaD BL.out hb); clear hb hbox hg; clear cgl_; have cgl_ := cz15 BL; have cgp_ := cz5 BP) | ((with_reducible refine xaJ (N := 6) rfl ?_); refine bxv 6 #[.int .i64 0, .float .f64 0, .int .i64 0] 48 ?_; intro gr hg w5 hbox hb; have GR := bG hg; have BR := am hbox; replace HB := am (xaC HB.out hb); replace BL := am (xaD BL.out hb); replace BP := am (xaD BP.out hb); clear hb hbox hg; clear cgl_ cgp_; have cgl_ := cz15 BL; have cgp_ := cz5 BP; obtain ⟨cr0, cr1, cr2, zr0, zr1, zr2⟩ := blk3 BR) | (go_at_call 143; (with_reducible refine (HY.out _).mono ?_); rintro e w3 ⟨rfl, hb⟩; replace HB := am (xaC (by repeat (first | exact HB.out | apply xaH | apply xaG | apply xaK)) hb); replace BL := am (xaD (by repeat (first | exact BL.out | apply xaT | apply xaZ | apply xaP)) hb); replace BP := am (xaD (by repeat (first | exact BP.out | apply xaT | apply xaZ | apply xaP)) hb); replace BR := am (xaD (by repeat (first | exact BR.out | apply xaT | apply xaZ | apply xaP)) hb); clear hb; clear cr0 cr1 cr2 zr0 zr1 zr2; clear cgl_ cgp_; have cgl_ := cz15 BL; have cgp_ := cz5 BP; obtain ⟨cr0, cr1, cr2, zr0, zr1, zr2⟩ := blk3 BR) | (go_at_call 97; (with_reducible refine (xeL r true HN.out _).mono ?_); rintro e w4 ⟨rfl, hw_⟩; obtain rfl := hw_.symm))
 (try simp only [Exit.inBlock, Exit.then])
 refine bodyPost_ret (xgM rfl _ _ gr 48 _ (0, 0) _ rfl (xeM (xeM (xeM BR.out 0 _) 1 _) 2 _) Tryz.underlying48 rfl (size48.trans rfl)) rfl ?_
 exact ⟨by simp, bB⟩
theorem paid_inf (kind cur : Int) (x y : Nat) (a b n : Int) (p : S145) (hk : 1 ≤ kind ∧ kind ≤ 5) (hx : numB x = true) (hy : numB y = true) (hp : (0 ≤ p.f2 ∧ p.f2 ≤ 109572) ∧ (0 ≤ p.f3 ∧ p.f3 ≤ 109572)) (w : World) (r : Nat) (hr : floatBits .mul .f64 (mulN x y) (yearF kind p.f2 p.f3) = some r) (hn : numB r = false) :
  Calls Tryz.prog 119 #[.agg #[.int .i64 1, .int .i64 kind, .int .i64 cur, .float .f64 x, .float .f64 y, .int .i64 a, .int .i64 b, .int .i64 n, .int .i64 3, .int .i64 1, .int .i64 0, .int .i64 0, .int .i64 0, .int .i64 0, .slice none 0 0], .agg #[.int .i64 p.f0, .int .i64 p.f1, .int .i64 p.f2, .int .i64 p.f3, .int .i64 p.f4], .float .f64 y] w fun e w' => e = .returned (.tuple #[.agg #[.int .i64 0, .float .f64 0, .int .i64 0], .int .i64 91]) ∧ Below w.heap.size w w' := by
 have HB := am (Below.refl w.heap.size w)
 have hY := fun w => xmA kind p.f2 p.f3 hk (frac_in hp) w
 have hm := xfP hx hy
 obtain ⟨u, hu⟩ : ∃ u, u = mulN x y := ⟨_, rfl⟩
 obtain ⟨v, hv⟩ : ∃ v, v = yearF kind p.f2 p.f3 := ⟨_, rfl⟩
 rw [← hu, ← hv] at hr
 have hop2 : ∀ t w, (binOp .mul t (.float .f64 u) (.float .f64 v)).run Tryz.prog w = .ok (.float .f64 r) w := fun t w => run_float_arith w .mul t .f64 u v r hr
 have HN := am hn;clear hr hn
 rw [← hu] at hm
 rw [← hv] at hY
 have hop : ∀ t w, (binOp .mul t (.float .f64 x) (.float .f64 y)).run Tryz.prog w = .ok (.float .f64 u) w := fun t w => run_float_arith w .mul t .f64 x y u hm
 have HY := am hY;clear hY hm hu hv hk hx hy hp
 go_enter Tryz.func119, Tryz.ntmps119
 go_wp2_with (first | ((with_reducible refine xaJ (N := 3) rfl ?_); refine bxv 3 #[.int .i64 1, .int .i64 kind, .int .i64 cur, .float .f64 x, .float .f64 y, .int .i64 a, .int .i64 b, .int .i64 n, .int .i64 3, .int .i64 1, .int .i64 0, .int .i64 0, .int .i64 0, .int .i64 0, .slice none 0 0] 158 ?_; intro gl hg w1 hbox hb; have BL := am hbox; replace HB := am (xaC HB.out hb); clear hb hbox hg; have cgl_ := cz15 BL) | ((with_reducible refine xaJ (N := 4) rfl ?_); refine bxv 4 #[.int .i64 p.f0, .int .i64 p.f1, .int .i64 p.f2, .int .i64 p.f3, .int .i64 p.f4] 145 ?_; intro gp hg w2 hbox hb; have BP := am hbox; replace HB := am (xaC HB.out hb); replace BL := am (xaD BL.out hb); clear hb hbox hg; clear cgl_; have cgl_ := cz15 BL; have cgp_ := cz5 BP) | ((with_reducible refine xaJ (N := 6) rfl ?_); refine bxv 6 #[.int .i64 0, .float .f64 0, .int .i64 0] 48 ?_; intro gr hg w5 hbox hb; have GR := bG hg; have BR := am hbox; replace HB := am (xaC HB.out hb); replace BL := am (xaD BL.out hb); replace BP := am (xaD BP.out hb); clear hb hbox hg; clear cgl_ cgp_; have cgl_ := cz15 BL; have cgp_ := cz5 BP; obtain ⟨cr0, cr1, cr2, zr0, zr1, zr2⟩ := blk3 BR) | (go_at_call 143; (with_reducible refine (HY.out _).mono ?_); rintro e w3 ⟨rfl, hb⟩; replace HB := am (xaC (by repeat (first | exact HB.out | apply xaH | apply xaG | apply xaK)) hb); replace BL := am (xaD (by repeat (first | exact BL.out | apply xaT | apply xaZ | apply xaP)) hb); replace BP := am (xaD (by repeat (first | exact BP.out | apply xaT | apply xaZ | apply xaP)) hb); replace BR := am (xaD (by repeat (first | exact BR.out | apply xaT | apply xaZ | apply xaP)) hb); clear hb; clear cr0 cr1 cr2 zr0 zr1 zr2; clear cgl_ cgp_; have cgl_ := cz15 BL; have cgp_ := cz5 BP; obtain ⟨cr0, cr1, cr2, zr0, zr1, zr2⟩ := blk3 BR) | (go_at_call 97; (with_reducible refine (xeL r false HN.out _).mono ?_); rintro e w4 ⟨rfl, hw_⟩; obtain rfl := hw_.symm))
 (try simp only [Exit.inBlock, Exit.then])
 refine bodyPost_ret (xgM rfl _ _ gr 48 _ (0, 0) _ rfl (xeM (xeM (xeM BR.out 0 _) 1 _) 2 _) Tryz.underlying48 rfl (size48.trans rfl)) rfl ?_
 exact ⟨by simp, bB⟩
theorem paid_nan (kind cur : Int) (x y : Nat) (a b n : Int) (p : S145) (hk : 1 ≤ kind ∧ kind ≤ 5) (hx : numB x = true) (hy : numB y = true) (hp : (0 ≤ p.f2 ∧ p.f2 ≤ 109572) ∧ (0 ≤ p.f3 ∧ p.f3 ≤ 109572)) (w : World) (hr : floatBits .mul .f64 (mulN x y) (yearF kind p.f2 p.f3) = none) :
  Calls Tryz.prog 119 #[.agg #[.int .i64 1, .int .i64 kind, .int .i64 cur, .float .f64 x, .float .f64 y, .int .i64 a, .int .i64 b, .int .i64 n, .int .i64 3, .int .i64 1, .int .i64 0, .int .i64 0, .int .i64 0, .int .i64 0, .slice none 0 0], .agg #[.int .i64 p.f0, .int .i64 p.f1, .int .i64 p.f2, .int .i64 p.f3, .int .i64 p.f4], .float .f64 y] w fun e w' => e = .returned (.tuple #[.agg #[.int .i64 0, .float .f64 0, .int .i64 0], .int .i64 91]) ∧ Below w.heap.size w w' := by
 have HB := am (Below.refl w.heap.size w)
 have hY := fun w => xmA kind p.f2 p.f3 hk (frac_in hp) w
 have hm := xfP hx hy
 obtain ⟨u, hu⟩ : ∃ u, u = mulN x y := ⟨_, rfl⟩
 obtain ⟨v, hv⟩ : ∃ v, v = yearF kind p.f2 p.f3 := ⟨_, rfl⟩
 rw [← hu, ← hv] at hr
 have hop2 : ∀ t w, (binOp .mul t (.float .f64 u) (.float .f64 v)).run Tryz.prog w = .ok (.float .f64 (nanV u v w)) w.drew := fun t w => nan_run hr t w
 clear hr
 rw [← hu] at hm
 rw [← hv] at hY
 have hop : ∀ t w, (binOp .mul t (.float .f64 x) (.float .f64 y)).run Tryz.prog w = .ok (.float .f64 u) w := fun t w => run_float_arith w .mul t .f64 x y u hm
 have HY := am hY;clear hY hm hu hv hk hx hy hp
 go_enter Tryz.func119, Tryz.ntmps119
 go_wp2_with (first | ((with_reducible refine xaJ (N := 3) rfl ?_); refine bxv 3 #[.int .i64 1, .int .i64 kind, .int .i64 cur, .float .f64 x, .float .f64 y, .int .i64 a, .int .i64 b, .int .i64 n, .int .i64 3, .int .i64 1, .int .i64 0, .int .i64 0, .int .i64 0, .int .i64 0, .slice none 0 0] 158 ?_; intro gl hg w1 hbox hb; have BL := am hbox; replace HB := am (xaC HB.out hb); clear hb hbox hg; have cgl_ := cz15 BL) | ((with_reducible refine xaJ (N := 4) rfl ?_); refine bxv 4 #[.int .i64 p.f0, .int .i64 p.f1, .int .i64 p.f2, .int .i64 p.f3, .int .i64 p.f4] 145 ?_; intro gp hg w2 hbox hb; have BP := am hbox; replace HB := am (xaC HB.out hb); replace BL := am (xaD BL.out hb); clear hb hbox hg; clear cgl_; have cgl_ := cz15 BL; have cgp_ := cz5 BP) | ((with_reducible refine xaJ (N := 6) rfl ?_); refine bxv 6 #[.int .i64 0, .float .f64 0, .int .i64 0] 48 ?_; intro gr hg w5 hbox hb; have GR := bG hg; have BR := am hbox; replace HB := am (xaC HB.out hb); replace BL := am (xaD BL.out hb); replace BP := am (xaD BP.out hb); clear hb hbox hg; clear cgl_ cgp_; have cgl_ := cz15 BL; have cgp_ := cz5 BP; obtain ⟨cr0, cr1, cr2, zr0, zr1, zr2⟩ := blk3 BR) | (go_at_call 143; (with_reducible refine (HY.out _).mono ?_); rintro e w3 ⟨rfl, hb⟩; replace HB := am (xaC (by repeat (first | exact HB.out | apply xaH | apply xaG | apply xaK)) hb); replace BL := am (xaD (by repeat (first | exact BL.out | apply xaT | apply xaZ | apply xaP)) hb); replace BP := am (xaD (by repeat (first | exact BP.out | apply xaT | apply xaZ | apply xaP)) hb); replace BR := am (xaD (by repeat (first | exact BR.out | apply xaT | apply xaZ | apply xaP)) hb); clear hb; clear cr0 cr1 cr2 zr0 zr1 zr2; clear cgl_ cgp_; have cgl_ := cz15 BL; have cgp_ := cz5 BP; obtain ⟨cr0, cr1, cr2, zr0, zr1, zr2⟩ := blk3 BR) | (go_at_call 97; (with_reducible refine (xeL _ false (nan_num _ _ _) _).mono ?_); rintro e w4 ⟨rfl, hw_⟩; obtain rfl := hw_.symm))
 (try simp only [Exit.inBlock, Exit.then])
 refine bodyPost_ret (xgM rfl _ _ gr 48 _ (0, 0) _ rfl (xaP (xeM (xeM (xeM BR.out 0 _) 1 _) 2 _)) Tryz.underlying48 rfl (size48.trans rfl)) rfl ?_
 exact ⟨by simp, bB⟩
theorem paid_ok (kind cur : Int) (x y : Nat) (a b n : Int) (p : S145) (hk : 1 ≤ kind ∧ kind ≤ 5) (hx : numB x = true) (hy : numB y = true) (hp : (0 ≤ p.f2 ∧ p.f2 ≤ 109572) ∧ (0 ≤ p.f3 ∧ p.f3 ≤ 109572)) (w : World) :
  Calls Tryz.prog 119 #[.agg #[.int .i64 1, .int .i64 kind, .int .i64 cur, .float .f64 x, .float .f64 y, .int .i64 a, .int .i64 b, .int .i64 n, .int .i64 3, .int .i64 1, .int .i64 0, .int .i64 0, .int .i64 0, .int .i64 0, .slice none 0 0], .agg #[.int .i64 p.f0, .int .i64 p.f1, .int .i64 p.f2, .int .i64 p.f3, .int .i64 p.f4], .float .f64 y] w fun e w' => e = .returned (.tuple #[.agg #[.int .i64 (paidF kind cur x y p).1.f0, .float .f64 (paidF kind cur x y p).1.f1, .int .i64 (paidF kind cur x y p).1.f2], .int .i64 (paidF kind cur x y p).2]) ∧ Below w.heap.size w w' := by
 cases hr : floatBits .mul .f64 (mulN x y) (yearF kind p.f2 p.f3) with
 | none =>
  have e : paidF kind cur x y p = (⟨0, 0, 0⟩, 91) := by unfold paidF; rw [hr]
  rw [e]
  exact paid_nan kind cur x y a b n p hk hx hy hp w hr
 | some r =>
  by_cases hn : numB r = true
  ·
   have e : paidF kind cur x y p = (⟨p.f4, r, cur⟩, 0) := by unfold paidF; rw [hr]; exact if_pos hn
   rw [e]
   exact paid_num kind cur x y a b n p hk hx hy hp w r hr hn
  ·
   have e : paidF kind cur x y p = (⟨0, 0, 0⟩, 91) := by unfold paidF; rw [hr]; exact if_neg hn
   rw [e]
   exact paid_inf kind cur x y a b n p hk hx hy hp w r hr (Bool.eq_false_iff.2 hn)
instance : Flat k145 := ⟨fun {w w' x cs} h => by rw [xlK h]; exact xmK w' x⟩
theorem Sl.low {α : Type} {d : Kd α} {e : TypeId} {w : World} {base b0 : Nat} {F : Nat → Prop} {A : Option Addr} {c : Nat} {xs : List α} (h : Sl d e w base F A c xs) (hb : b0 ≤ base) : Sl d e w b0 F A c xs :=
  ⟨h.le, h.lim, h.row.imp_right (fun ⟨b, off, cur, inner, h1, h2, h3, h4⟩ => ⟨b, off, cur, inner, h1, h2, Nat.le_trans hb h3, h4⟩)⟩
def spV (a b n : Int) : Value := (.agg #[.int .i64 a, .int .i64 b, .int .i64 n, .int .i64 3, .int .i64 1, .int .i64 0, .int .i64 0, .int .i64 0, .int .i64 0, .slice none 0 0])
structure SpO (a b n : Int) : Prop where
  ab : 0 ≤ a ∧ a < b ∧ b ≤ 109572
  n : 1 ≤ n ∧ n ≤ 1200
def ptF (n x k : Int) : Option Int := if M.xcB x (k * n) then some (M.xdX x (k * n) false).1 else none
def told (o : Option Int) : Int × Bool := match o with | some v => (v, true) | none => (0, false)
theorem mul_rng {k n c : Int} (h0 : 0 ≤ c) (h1 : -c ≤ k) (h2 : k ≤ c) (n1 : 1 ≤ n) (n2 : n ≤ 1200) : -(c * 1200) ≤ k * n ∧ k * n ≤ c * 1200 := by
 have a := Int.mul_le_mul_of_nonneg_right h2 (show 0 ≤ n by omega)
 have b := Int.mul_le_mul_of_nonneg_left n2 h0
 have d := Int.mul_le_mul_of_nonneg_right h1 (show 0 ≤ n by omega)
 rw [Int.neg_mul] at d
 omega
def innG (a b n : Int) : Nat → Nat → Option (List Int)
 | 0, _ => none
 | f + 1, i => match ptF n b (-1 * ((i : Int) + 1)) with
  | none => some []
  | some v => if v ≤ a then some [] else if 1200 < (i : Int) + 2 then none else (innG a b n f (i + 1)).map (v :: ·)
def innF (a b n : Int) : Option (List Int) := innG a b n 1200 0
def datF (a b : Int) : Option (List Int) → List Int × Int
  | none => ([], 81)
  | some l => (a :: l.reverse ++ [b], 0)
def xbR (a b n : Int) : List Int × Int := datF a b (innF a b n)
def perF (L : List Int) : Nat → Nat → List S145 → List S145 × Int
  | 0, _, acc => (acc, 0)
  | f + 1, i, acc => if (adj0 (L.getD i 0)).2 = 0 then (if (adj0 (L.getD (i + 1) 0)).2 = 0 then perF L f (i + 1) (acc ++ [⟨L.getD i 0, L.getD (i + 1) 0, (adj0 (L.getD i 0)).1, (adj0 (L.getD (i + 1) 0)).1, (adj0 (L.getD (i + 1) 0)).1⟩]) else ([], (adj0 (L.getD (i + 1) 0)).2)) else ([], (adj0 (L.getD i 0)).2)
def perA (a b n : Int) : List S145 × Int := if (xbR a b n).2 = 0 then perF (xbR a b n).1 ((xbR a b n).1.length - 1) 0 [] else ([], (xbR a b n).2)
theorem inn_len (a b n : Int) : ∀ (f i : Nat) (l : List Int), innG a b n f i = some l → l.length ≤ f
 | 0, _, _, h => by cases h
 | f + 1, i, l, h => by
  rw [innG] at h
  split at h
  ·
   injection h with h; subst h; exact Nat.zero_le _
  ·
   split at h
   ·
    injection h with h; subst h; exact Nat.zero_le _
   ·
    split at h
    ·
     cases h
    ·
     obtain ⟨q, hq, rfl⟩ := Option.map_eq_some_iff.1 h
     have := inn_len a b n f (i + 1) q hq
     rw [List.length_cons]; omega
theorem xiD {a b n : Int} (h : (xbR a b n).2 = 0) : 2 ≤ (xbR a b n).1.length ∧ (xbR a b n).1.length ≤ 1202 := by
 unfold xbR at h ⊢
 cases hi : innF a b n with
 | none => rw [hi] at h; cases h
 | some l =>
  have := inn_len a b n 1200 0 l hi
  simp [datF]; omega
theorem perF_len (L : List Int) : ∀ (f i : Nat) (acc : List S145), (perF L f i acc).1.length ≤ acc.length + f
 | 0, i, acc => by rw [perF]; exact Nat.le_refl _
 | f + 1, i, acc => by
  rw [perF]
  split
  ·
   split
   ·
    refine Nat.le_trans (perF_len L f (i + 1) _) ?_
    rw [List.length_append, List.length_singleton]; omega
   ·
    exact Nat.zero_le _
  ·
   exact Nat.zero_le _
theorem xmE (a b n : Int) : (perA a b n).1.length ≤ 4096 := by
 unfold perA
 split
 ·
  rename_i h
  have h1 := perF_len (xbR a b n).1 ((xbR a b n).1.length - 1) 0 []
  have h2 := (xiD h).2
  simp only [List.length_nil] at h1
  omega
 ·
  exact Nat.zero_le _
theorem adj_in {x : Int} (h : (adj0 x).2 = 0) : 0 ≤ (adj0 x).1 ∧ (adj0 x).1 ≤ 109572 := by
 unfold adj0 at h ⊢
 by_cases h1 : 0 ≤ x ∧ x ≤ 109572
 ·
  rw [if_pos h1]; exact h1
 ·
  rw [if_neg h1] at h; cases h
theorem per_inF (L : List Int) : ∀ (f i : Nat) (acc : List S145), (∀ p ∈ acc, (0 ≤ p.f2 ∧ p.f2 ≤ 109572) ∧ (0 ≤ p.f3 ∧ p.f3 ≤ 109572)) → ∀ p ∈ (perF L f i acc).1, (0 ≤ p.f2 ∧ p.f2 ≤ 109572) ∧ (0 ≤ p.f3 ∧ p.f3 ≤ 109572)
 | 0, i, acc, h => by rw [perF]; exact h
 | f + 1, i, acc, h => by
  rw [perF]
  split
  ·
   rename_i h1
   split
   ·
    rename_i h2
    exact per_inF L f (i + 1) _ (fun p hp => (List.mem_append.1 hp).elim (h p) (fun hp => by rw [List.mem_singleton.1 hp]; exact ⟨adj_in h1, adj_in h2⟩))
   ·
    exact fun p hp => (by cases hp)
  ·
   exact fun p hp => (by cases hp)
theorem per_in (a b n : Int) : ∀ p ∈ (perA a b n).1, (0 ≤ p.f2 ∧ p.f2 ≤ 109572) ∧ (0 ≤ p.f3 ∧ p.f3 ≤ 109572) := by
 unfold perA
 split
 ·
  exact per_inF _ _ _ _ (fun p hp => (by cases hp))
 ·
  exact fun p hp => (by cases hp)
theorem xlF {L : List Int} {i : Nat} {acc : List S145} (hi : i + 1 < L.length) :
  perF L (L.length - 1 - i) i acc = if (adj0 (L.getD i 0)).2 = 0 then (if (adj0 (L.getD (i + 1) 0)).2 = 0 then perF L (L.length - 1 - (i + 1)) (i + 1) (acc ++ [⟨L.getD i 0, L.getD (i + 1) 0, (adj0 (L.getD i 0)).1, (adj0 (L.getD (i + 1) 0)).1, (adj0 (L.getD (i + 1) 0)).1⟩]) else ([], (adj0 (L.getD (i + 1) 0)).2)) else ([], (adj0 (L.getD i 0)).2) := by
 obtain ⟨f, hf⟩ : ∃ f, L.length - 1 - i = f + 1 := ⟨L.length - 2 - i, by omega⟩
 rw [hf, perF, show L.length - 1 - (i + 1) = f by omega]
def InI (a b n : Int) (l : List Int) : Prop := l.length ≤ 1199 ∧ innF a b n = (innG a b n (1200 - l.length) l.length).map (l ++ ·)
theorem in_start (a b n : Int) : InI a b n [] := ⟨by simp, by
  show innF a b n = (innF a b n).map _
  cases innF a b n <;> rfl⟩
theorem in_round {a b n v : Int} {l : List Int} {ok : Bool} (h : InI a b n l) (ht : told (ptF n b (-1 * ((l.length : Int) + 1))) = (v, ok)) :
  (ok = false ∧ innF a b n = some l) ∨ (ok = true ∧ v ≤ a ∧ innF a b n = some l) ∨ (ok = true ∧ a < v ∧ 1199 ≤ l.length ∧ innF a b n = none) ∨ (ok = true ∧ a < v ∧ l.length < 1199 ∧ InI a b n (l ++ [v])) := by
 obtain ⟨hl, he⟩ := h
 obtain ⟨f, hf⟩ : ∃ f, 1200 - l.length = f + 1 := ⟨1199 - l.length, by omega⟩
 rw [hf, innG] at he
 cases hp : ptF n b (-1 * ((l.length : Int) + 1)) with
 | none =>
  rw [hp] at ht he
  injection ht with h1 h2
  exact Or.inl ⟨h2.symm, by rw [he]; simp⟩
 | some x =>
  rw [hp] at ht he
  injection ht with h1 h2
  subst h1 h2
  simp only at he
  by_cases h3 : x ≤ a
  ·
   rw [if_pos h3] at he; exact Or.inr (Or.inl ⟨rfl, h3, by rw [he]; simp⟩)
  ·
   rw [if_neg h3] at he
   by_cases h5 : 1200 < (l.length : Int) + 2
   ·
    rw [if_pos h5] at he; exact Or.inr (Or.inr (Or.inl ⟨rfl, by omega, by omega, by rw [he]; rfl⟩))
   ·
    rw [if_neg h5] at he
    refine Or.inr (Or.inr (Or.inr ⟨rfl, by omega, by omega, by simp; omega, ?_⟩))
    rw [he, List.length_append, List.length_singleton, show 1200 - (l.length + 1) = f by omega]
    cases innG a b n f (l.length + 1) with
    | none => rfl
    | some p => simp
theorem at_i {w : World} {A : Option Addr} {n : Nat} {l : List Int} (h : Kd.C (Kd.int .i64) w A n l) (i : Nat) (hi : i < n) : ∃ ad, A = some ad ∧ w.cell? (ad.add i) = some (.int .i64 (l.getD i 0)) := by
 obtain ⟨ad, e, hx⟩ := Kd.at_int h (i : Int) (by omega) (by omega)
 rw [Int.toNat_natCast] at hx
 exact ⟨ad, e, hx⟩
theorem xhR {l : List Int} {n0 i : Nat} (hn : n0 = l.length) (hi : i < n0) (hn2 : n0 ≤ 1200) : ∃ (q j : Nat), IntKind.i64.wrap ((n0 : Int) - 1) = (q : Int) ∧ IntKind.i64.wrap ((q : Int) - (i : Int)) = (j : Int) ∧ j < n0 ∧ l.reverse.take (i + 1) = l.reverse.take i ++ [l.getD j 0] ∧ IntKind.i64.wrap ((i : Int) + 1) = ((i + 1 : Nat) : Int) := by
 refine ⟨n0 - 1, n0 - 1 - i, ?_, ?_, by omega, ?_, ?_⟩
 ·
  rw [i64_w]; unfold wrap64; omega
 ·
  rw [i64_w]; unfold wrap64; omega
 ·
  rw [List.take_succ_eq_append_getElem (by simp; omega), List.getElem_reverse, List.getD_eq_getElem?_getD, List.getElem?_eq_getElem (by omega)]
  congr 2
  rw [Option.getD_some]; congr 1; omega
 ·
  rw [i64_w]; unfold wrap64; omega
def xdC (kind cur : Int) (x y : Nat) : List S145 → List S48 → List S48 × Int
  | [], acc => (acc, 0)
  | p :: ps, acc => if (paidF kind cur x y p).2 = 0 then xdC kind cur x y ps (acc ++ [(paidF kind cur x y p).1]) else ([], (paidF kind cur x y p).2)
theorem rd145 {l : List S145} {i : Nat} (h : i < l.length) : xfX l (i : Int) = l[i] := by
  unfold xfX
  simp [h]
theorem leg_err (kind cur : Int) (x y : Nat) (a b n : Int) (l : List S145) (w : World) (ee : Int) (he : ¬ ee = 0) (hg : ∀ w, Calls Tryz.prog 118 #[.agg #[.int .i64 1, .int .i64 kind, .int .i64 cur, .float .f64 x, .float .f64 y, .int .i64 a, .int .i64 b, .int .i64 n, .int .i64 3, .int .i64 1, .int .i64 0, .int .i64 0, .int .i64 0, .int .i64 0, .slice none 0 0], .int .i64 1] w fun e w' => ∃ A c, e = .returned (.tuple #[.slice A l.length c, .int .i64 ee]) ∧ Sl k145 145 w' w.heap.size (fun _ => True) A c l ∧ Below w.heap.size w w') :
  Calls Tryz.prog 96 #[.agg #[.int .i64 1, .int .i64 kind, .int .i64 cur, .float .f64 x, .float .f64 y, .int .i64 a, .int .i64 b, .int .i64 n, .int .i64 3, .int .i64 1, .int .i64 0, .int .i64 0, .int .i64 0, .int .i64 0, .slice none 0 0]] w fun e w' => e = .returned (.tuple #[.slice none 0 0, .int .i64 ee]) ∧ Below w.heap.size w w' := by
 have HB := am (Below.refl w.heap.size w)
 have HG := am hg
 have t0 : (ee != 0) = true := bne_iff_ne.mpr he
 clear hg he
 go_enter Tryz.func96, Tryz.ntmps96
 go_wp2_with (first | ((with_reducible refine xaJ (N := 1) rfl ?_); refine bxv 1 #[.int .i64 1, .int .i64 kind, .int .i64 cur, .float .f64 x, .float .f64 y, .int .i64 a, .int .i64 b, .int .i64 n, .int .i64 3, .int .i64 1, .int .i64 0, .int .i64 0, .int .i64 0, .int .i64 0, .slice none 0 0] 158 ?_; intro gl hg w1 hbox hb; have BL := am hbox; replace HB := am (xaC HB.out hb); clear hb hbox hg; have cgl_ := cz15 BL) | (go_at_call 118; (with_reducible refine (HG.out _).mono ?_); rintro e w2 ⟨A, c, rfl, ho, hb⟩; replace HB := am (xaC (by repeat (first | exact HB.out | apply xaG | apply xaK)) hb); clear ho hb; clear cgl_))
 go_ret2
 exact ⟨rfl, by repeat (first | exact HB.out | apply xaG | apply xaK)⟩
theorem leg_ok (kind cur : Int) (x y : Nat) (a b n : Int) (l : List S145) (w : World) (hk : 1 ≤ kind ∧ kind ≤ 5) (hx : numB x = true) (hy : numB y = true) (hl : l.length ≤ 5000) (hin : ∀ p ∈ l, (0 ≤ p.f2 ∧ p.f2 ≤ 109572) ∧ (0 ≤ p.f3 ∧ p.f3 ≤ 109572)) (hg : ∀ w, Calls Tryz.prog 118 #[.agg #[.int .i64 1, .int .i64 kind, .int .i64 cur, .float .f64 x, .float .f64 y, .int .i64 a, .int .i64 b, .int .i64 n, .int .i64 3, .int .i64 1, .int .i64 0, .int .i64 0, .int .i64 0, .int .i64 0, .slice none 0 0], .int .i64 1] w fun e w' => ∃ A c, e = .returned (.tuple #[.slice A l.length c, .int .i64 0]) ∧ Sl k145 145 w' w.heap.size (fun _ => True) A c l ∧ Below w.heap.size w w') (rl : List S48) (re : Int) (hres : xdC kind cur x y l [] = (rl, re)) :
  Calls Tryz.prog 96 #[.agg #[.int .i64 1, .int .i64 kind, .int .i64 cur, .float .f64 x, .float .f64 y, .int .i64 a, .int .i64 b, .int .i64 n, .int .i64 3, .int .i64 1, .int .i64 0, .int .i64 0, .int .i64 0, .int .i64 0, .slice none 0 0]] w fun e w' => ∃ A' c', e = .returned (.tuple #[.slice A' rl.length c', .int .i64 re]) ∧ Sl k48 48 w' w.heap.size (fun _ => True) A' c' rl ∧ Below w.heap.size w w' := by
 have HB := am (Below.refl w.heap.size w)
 have HG := am hg;have HL := am hl
 have HPD : xaA (∀ i (h : i < l.length) w, Calls Tryz.prog 119 #[.agg #[.int .i64 1, .int .i64 kind, .int .i64 cur, .float .f64 x, .float .f64 y, .int .i64 a, .int .i64 b, .int .i64 n, .int .i64 3, .int .i64 1, .int .i64 0, .int .i64 0, .int .i64 0, .int .i64 0, .slice none 0 0], .agg #[.int .i64 l[i].f0, .int .i64 l[i].f1, .int .i64 l[i].f2, .int .i64 l[i].f3, .int .i64 l[i].f4], .float .f64 y] w fun e w' => e = .returned (.tuple #[.agg #[.int .i64 (paidF kind cur x y l[i]).1.f0, .float .f64 (paidF kind cur x y l[i]).1.f1, .int .i64 (paidF kind cur x y l[i]).1.f2], .int .i64 (paidF kind cur x y l[i]).2]) ∧ Below w.heap.size w w') := ⟨fun i h w => paid_ok kind cur x y a b n l[i] hk hx hy (hin _ (List.getElem_mem h)) w⟩
 have HRES := am hres;clear hg hk hx hy hl hin hres
 go_enter Tryz.func96, Tryz.ntmps96
 go_wp2_with (first | ((with_reducible refine xaJ (N := 1) rfl ?_); refine bxv 1 #[.int .i64 1, .int .i64 kind, .int .i64 cur, .float .f64 x, .float .f64 y, .int .i64 a, .int .i64 b, .int .i64 n, .int .i64 3, .int .i64 1, .int .i64 0, .int .i64 0, .int .i64 0, .int .i64 0, .slice none 0 0] 158 ?_; intro gl hg w1 hbox hb; have BL := am hbox; replace HB := am (xaC HB.out hb); clear hb hbox hg; have cgl_ := cz15 BL) | (go_at_call 118; (with_reducible refine (HG.out _).mono ?_); rintro e w2 ⟨A, c, rfl, hs, hb⟩; have HR := am hs.C; replace HB := am (xaC (by repeat (first | exact HB.out | apply xaG | apply xaK)) hb); replace BL := am (xaD (by repeat (first | exact BL.out | apply xaZ | apply xaP)) hb); clear hb hs; clear cgl_) | ((with_reducible refine xaJ (N := 21) rfl ?_); refine Kd.xgT k48 (w0 := w2) w2.heap.size 48 rfl (N := 21) rfl 24 _ _ rfl (l.length : Int) rfl rfl Tryz.underlying24 (.agg #[.int .i64 0, .float .f64 0, .int .i64 0]) 24 xeA rfl (by decide) (by omega) z48 (ok := fun _ => True) (okp := fun _ => True) (xeU _ _ _ z48) (fun _ hk => hk) trivial (by omega) (by have := HL.out; omega) (by repeat (first | exact Below.refl _ _ | apply xaG | apply xaK)) (by simp) ?_; intro v0 w3 ho hb hg_ hnew_; clear hg_ hnew_; have HO := am ho; have HB2 := am hb; clear ho hb))
 go_loopg [6, 24] (l.length) (fun kq v6 v24 w' => ∃ (i : Nat) (acc : List S48), i ≤ l.length ∧ kq + i = l.length ∧ v24 = .int .i64 i ∧ xaA (acc.length = i) ∧ xaA (xdC kind cur x y (l.drop i) acc = (rl, re)) ∧ xaA (Kd.R k48 48 w' w2.heap.size (fun _ => True) v6 acc) ∧ xaA (Below w2.heap.size w2 w'))
 case atStart => exact ⟨0, [], by omega, by omega, rfl, ⟨rfl⟩, ⟨HRES.out⟩, ⟨by repeat (first | exact HO.out | apply Kd.xgU | apply Kd.xjM)⟩, ⟨by repeat (first | exact HB2.out | apply xaG | apply xaK)⟩⟩
 case round =>
  obtain ⟨i, acc, hi, hk, rfl, HAL, HPA, HO, HBW⟩ := hrel
  by_cases hlt : i < l.length
  ·
   obtain ⟨ad, e, h0, h1, h2, h3, h4⟩ := at_T145 (Kd.xaQ HR.out HBW.out) (i : Int) (by omega) (by omega)
   subst e
   rw [rd145 hlt] at h0 h1 h2 h3 h4
   rw [Int.toNat_natCast] at h0 h1 h2 h3 h4
   have hpa := HPA.out
   rw [List.drop_eq_getElem_cons hlt, xdC] at hpa
   have hp := HPD.out i hlt
   obtain ⟨p, hpp⟩ : ∃ p, p = l[i] := ⟨_, rfl⟩
   rw [← hpp] at h0 h1 h2 h3 h4 hp hpa
   clear hpp
   obtain ⟨⟨q, ep⟩, hq⟩ : ∃ q, q = paidF kind cur x y p := ⟨_, rfl⟩
   rw [← hq] at hp hpa
   clear hq HPA;have HP := am hp;have HPA := am hpa;clear hp hpa
   simp only at HP HPA
   have hmx : (i : Int) + 1 ≤ 9223372036854775807 := by have := HL.out; omega
   go_upto_region 8 with (fail)
   clear h0 h1 h2 h3 h4
   have BP := am (xbF wr (.cells #[.int .i64 p.f0, .int .i64 p.f1, .int .i64 p.f2, .int .i64 p.f3, .int .i64 p.f4] 145))
   have BLW := am (xaD (xaD BL.out HBW.out) (xaH (Below.refl wr.heap.size wr) (.cells #[.int .i64 p.f0, .int .i64 p.f1, .int .i64 p.f2, .int .i64 p.f3, .int .i64 p.f4] 145)))
   replace HBW := am (xaH HBW.out (.cells #[.int .i64 p.f0, .int .i64 p.f1, .int .i64 p.f2, .int .i64 p.f3, .int .i64 p.f4] 145))
   replace HO := am (Kd.xfJ HO.out (.cells #[.int .i64 p.f0, .int .i64 p.f1, .int .i64 p.f2, .int .i64 p.f3, .int .i64 p.f4] 145))
   generalize wr.heap.size = gp at BP ⊢
   generalize wr.alloc (.cells #[.int .i64 p.f0, .int .i64 p.f1, .int .i64 p.f2, .int .i64 p.f3, .int .i64 p.f4] 145) = W at BP BLW HBW HO ⊢
   obtain ⟨cp0, cp1, cp2, cp3, cp4, zp0, zp1, zp2, zp3, zp4⟩ := blk5 BP
   have cgl_ := cz15 BLW
   by_cases he : ep = 0
   ·
    subst he
    have HPB := am (show xdC kind cur x y (l.drop (i + 1)) (acc ++ [q]) = (rl, re) by have h := HPA.out; rw [if_pos rfl] at h; exact h)
    clear HPA
    go_wp2_with (first | (go_at_call 119; (with_reducible refine (HP.out _).mono ?_); rintro e w5 ⟨rfl, hb⟩; replace HBW := am (xaC HBW.out hb); replace HO := am (Kd.xiL HO.out hb); clear hb; clear cp0 cp1 cp2 cp3 cp4 zp0 zp1 zp2 zp3 zp4; clear cgl_) | ((with_reducible refine xaR (b := .append) (xs := #[.tmp 39, .tmp 41]) rfl ?_); at_builtin; refine Kd.xgJ k48 (w0 := w2) w2.heap.size rfl (.tmp 39) (.tmp 41) 24 48 (.agg #[.int .i64 0, .float .f64 0, .int .i64 0]) 24 rfl Tryz.underlying24 xeA rfl (by decide) (by omega) u6 acc q [.int .i64 q.f0, .float .f64 q.f1, .int .i64 q.f2] (fun _ => True) (fun _ => False) rfl ?aX (xeU _ _ _ q) (fun _ hk => hk.elim) (fun _ _ => trivial) ?aR ?aB ?aS ?aL ?_; (case aX => show Value.slice (some ⟨_, 0, none⟩) 1 1 = _; simp); (case aR => repeat (first | exact HO.out | apply Kd.xfJ | apply Kd.xgU | apply Kd.xjM)); (case aB => repeat (first | exact HBW.out | apply xaH | apply xaG | apply xaK)); (case aS => exact xeD (by repeat (first | exact HBW.out | apply xaH | apply xaG | apply xaK))); (case aL => have := HL.out; have := HAL.out; omega); intro v1 w6 ho hb hg hat; replace HO := am ho; replace HBW := am hb; clear ho hb hg hat))
    go_roundg (gk - 1)
    case measure => omega
    case rel => exact ⟨i + 1, acc ++ [q], by omega, by omega, by go_num, ⟨by rw [List.length_append, HAL.out]; rfl⟩, HPB, HO, HBW⟩
   ·
    have t0 : (ep != 0) = true := bne_iff_ne.mpr he
    have hpb := HPA.out
    rw [if_neg he] at hpb
    injection hpb with e1 e2
    subst e1;subst e2;clear HPA he
    go_wp2_with (first | (go_at_call 119; (with_reducible refine (HP.out _).mono ?_); rintro e w5 ⟨rfl, hb⟩; replace HBW := am (xaC HBW.out hb); replace HO := am (Kd.xiL HO.out hb); clear hb; clear cp0 cp1 cp2 cp3 cp4 zp0 zp1 zp2 zp3 zp4; clear cgl_))
    go_ret2
    exact ⟨none, 0, rfl, Sl.nil _ _ _ _ _, HB.out.trans (Below.mono (by repeat (first | exact HBW.out | apply xaH | apply xaG | apply xaK)) HB.out.size)⟩
  ·
   have hpb := HPA.out
   rw [List.drop_of_length_le (by omega), xdC] at hpb
   injection hpb with e1 e2
   subst e1;subst e2;clear HPA
   go_wp2_with fail
   go_ret2
   obtain ⟨A1, c1, rfl, hs1⟩ := Sl.of_R HO.out
   exact ⟨A1, c1, rfl, hs1.low HB.out.size, HB.out.trans (HBW.out.mono HB.out.size)⟩
def sameB (a0 a1 a2 : Int) (a3 a4 : Nat) (a5 a6 a7 a8 a9 a10 b0 b1 b2 : Int) (b3 b4 : Nat) (b5 b6 b7 b8 b9 b10 : Int) : Bool :=
  decide (a3 = b3 ∧ a4 = b4 ∧ a0 = b0 ∧ a1 = b1 ∧ a2 = b2 ∧ a5 = b5 ∧ a6 = b6 ∧ a7 = b7 ∧ a8 = b8 ∧ a9 = b9 ∧ a10 = b10)
theorem xdJ (a0 a1 a2 : Int) (a3 a4 : Nat) (a5 a6 a7 a8 a9 a10 b0 b1 b2 : Int) (b3 b4 : Nat) (b5 b6 b7 b8 b9 b10 : Int) (w : World) :
  Calls Tryz.prog 95 #[.agg #[.int .i64 a0, .int .i64 a1, .int .i64 a2, .float .f64 a3, .float .f64 a4, .int .i64 a5, .int .i64 a6, .int .i64 a7, .int .i64 a8, .int .i64 a9, .int .i64 a10], .agg #[.int .i64 b0, .int .i64 b1, .int .i64 b2, .float .f64 b3, .float .f64 b4, .int .i64 b5, .int .i64 b6, .int .i64 b7, .int .i64 b8, .int .i64 b9, .int .i64 b10]] w
   fun e w' => e = .returned (.bool (sameB a0 a1 a2 a3 a4 a5 a6 a7 a8 a9 a10 b0 b1 b2 b3 b4 b5 b6 b7 b8 b9 b10)) ∧ Below w.heap.size w w' := by
 have HB := am (Below.refl w.heap.size w)
 have hu103 := Tryz.underlying103
 have heq := fun d w => eqT d w a0 b0 a1 b1 a2 b2 a5 b5 a6 b6 a7 b7 a8 b8 a9 b9 a10 b10 0 0 0 0
 by_cases h3 : a3 = b3
 ·
  by_cases h4 : a4 = b4
  ·
   subst h3 h4
   go_enter Tryz.func95, Tryz.ntmps95
   go_wp2
   go_quiet ((go_at_call 29; exact Calls.quiet_of_same (xdD _ _)))
   go_wp2
   go_ret
   exact ⟨congrArg (fun b => Ending.returned (.bool b)) (by unfold sameB; rw [Bool.eq_iff_iff]; simp), bA⟩
  ·
   have h4' : ((a4 : Int) == (b4 : Int)) = false := by rw [beq_eq_false_iff_ne]; omega
   subst h3
   go_enter Tryz.func95, Tryz.ntmps95
   go_wp2
   go_quiet ((go_at_call 29; exact Calls.quiet_of_same (xdD _ _)))
   go_wp2
   go_ret
   exact ⟨congrArg (fun b => Ending.returned (.bool b)) (by unfold sameB; simp [h4]), bA⟩
 ·
  have h3' : ((a3 : Int) == (b3 : Int)) = false := by rw [beq_eq_false_iff_ne]; omega
  go_enter Tryz.func95, Tryz.ntmps95
  go_wp2
  go_quiet ((go_at_call 29; exact Calls.quiet_of_same (xdD _ _)))
  go_wp2
  go_ret
  exact ⟨congrArg (fun b => Ending.returned (.bool b)) (by unfold sameB; simp [h3]), bA⟩
def inB (n lo hi : Int) : Bool := decide (lo ≤ n) && decide (n ≤ hi)
theorem xfK (n lo hi : Int) (w : World) : Calls Tryz.prog 93 #[.int .i64 n, .int .i64 lo, .int .i64 hi] w fun e w' => e = .returned (.bool (inB n lo hi)) ∧ w' = w := by
 unfold inB
 by_cases h1 : lo ≤ n
 ·
  have t1 : decide (n ≥ lo) = true := decide_eq_true h1
  have t2 : decide (lo ≤ n) = true := decide_eq_true h1
  go_enter Tryz.func93, Tryz.ntmps93
  go_wp2_with fail
  go_ret
  exact ⟨by simp [h1], rfl⟩
 ·
  have t1 : decide (n ≥ lo) = false := decide_eq_false h1
  have t2 : decide (lo ≤ n) = false := decide_eq_false h1
  go_enter Tryz.func93, Tryz.ntmps93
  go_wp2_with fail
  go_ret
  exact ⟨by simp [h1], rfl⟩
theorem is_c (n : Int) (w : World) : Calls Tryz.prog 94 #[.int .i64 n] w fun e w' => e = .returned (.bool (inB n 0 109572)) ∧ w' = w := by
 go_enter Tryz.func94, Tryz.ntmps94
 go_wp2_with (go_at_call 93; (with_reducible refine (xfK _ _ _ _).mono ?_); rintro e w' ⟨rfl, rfl⟩)
 go_ret
 exact ⟨rfl, rfl⟩
theorem xgQ (x : Nat) (w : World) : Calls Tryz.prog 92 #[.float .f64 x] w fun e w' => e = .returned (.bool (numB x)) ∧ w' = w := by
 have hc := xjE x w;have HC := am hc;clear hc
 go_enter Tryz.func92, Tryz.ntmps92
 go_wp2_with (go_at_call 117; (with_reducible refine HC.out.mono ?_); rintro e w' ⟨c, hc, rfl, rfl⟩)
 go_ret
 exact ⟨by first | rfl | rw [← hc] | simp [hc], rfl⟩
theorem xgG (a0 a1 a2 : Int) (a3 a4 : Nat) (a5 a6 a7 a8 a9 a10 : Int) (w : World) : Calls Tryz.prog 91 #[.agg #[.int .i64 a0, .int .i64 a1, .int .i64 a2, .float .f64 a3, .float .f64 a4, .int .i64 a5, .int .i64 a6, .int .i64 a7, .int .i64 a8, .int .i64 a9, .int .i64 a10]] w fun e w' => e = .returned (.agg #[.int .i64 a0, .int .i64 a1, .int .i64 a2, .float .f64 0, .float .f64 0, .int .i64 0, .int .i64 0, .int .i64 0, .int .i64 0, .int .i64 0, .int .i64 0]) ∧ Below w.heap.size w w' :=
  xiC.calls a0 a1 a2 a3 a4 a5 a6 a7 a8 a9 a10 a0 a1 a2 0 0 0 0 0 0 0 0 w rfl
theorem blk11 {w : World} {g : Nat} {t : TypeId} {a b c d e f i j k l m : Value} (h : xaA (w.heap[g]? = some (.cells #[a, b, c, d, e, f, i, j, k, l, m] t (0, 0)))) : (w.cell? ⟨g, 0, none⟩ = some a ∧ w.cell? ⟨g, 1, none⟩ = some b ∧ w.cell? ⟨g, 2, none⟩ = some c ∧ w.cell? ⟨g, 3, none⟩ = some d ∧ w.cell? ⟨g, 4, none⟩ = some e ∧ w.cell? ⟨g, 5, none⟩ = some f ∧ w.cell? ⟨g, 6, none⟩ = some i ∧ w.cell? ⟨g, 7, none⟩ = some j ∧ w.cell? ⟨g, 8, none⟩ = some k ∧ w.cell? ⟨g, 9, none⟩ = some l ∧ w.cell? ⟨g, 10, none⟩ = some m) ∧ ∀ q, w.frozen? ⟨g, q, none⟩ = false :=
  ⟨⟨(xaB h.out 0).trans rfl, (xaB h.out 1).trans rfl, (xaB h.out 2).trans rfl, (xaB h.out 3).trans rfl, (xaB h.out 4).trans rfl, (xaB h.out 5).trans rfl, (xaB h.out 6).trans rfl, (xaB h.out 7).trans rfl, (xaB h.out 8).trans rfl, (xaB h.out 9).trans rfl, (xaB h.out 10).trans rfl⟩, fun q => xaE h.out q⟩
def wayV (g : Nat) (fn : FuncId) : Value := .func (.func fn) #[.pointer (some ⟨g, 0, none⟩)] #[]
theorem ways_ok (g : Nat) (w : World) : Calls Tryz.prog 33 #[.pointer (some ⟨g, 0, none⟩)] w fun e w' => e = .returned (.slice (some ⟨w.heap.size, 0, none⟩) 8 8) ∧ w' = w.alloc (.cells #[.nilFunc, wayV g 51, wayV g 52, wayV g 53, wayV g 54, wayV g 55, wayV g 56, wayV g 57] 89) := by
 have hmf : ∀ (fn : Fn) (first cap : Array Value) (w : World), (Instr.makeFunc fn first cap).run Tryz.prog w = .ok (.func fn first cap) w := fun _ _ _ _ => rfl
 go_enter Tryz.func33, Tryz.ntmps33
 go_wp2
 go_ret
 exact ⟨rfl, rfl⟩
section
variable {w : World} {base g : Nat} {F : Nat → Prop} {Ac : Option Addr} {cc : Nat} {Af : Option Addr} {cf : Nat} {Am : Option Addr} {cm : Nat} {s : St}
theorem size_ok (h : Mx w base g F Ac cc Af cf Am cm s) : Calls Tryz.prog 21 #[.pointer (some ⟨g, 0, none⟩)] w fun e w' => e = .returned (.tuple #[.int .i64 (s.flows.length : Int), .int .i64 (s.marks.length : Int)]) ∧ ∃ k, w' = w.drewN k := by
 obtain ⟨c0, c1, c2, c3, c4, c5, z0, z1, z2, z3, z4, z5⟩ := blk6 h.k
 clear h
 go_enter Tryz.func21, Tryz.ntmps21
 go_wp2
 go_quiet (fail)
 go_wp2
 go_ret2
 exact ⟨rfl, _, rfl⟩
def xcD (s : St) : List S48 × Int := if s.ended = true then (if s.fault = 0 then (s.flows, 0) else ([], s.fault)) else ([], 190)
theorem xhG (h : Mx w base g F Ac cc Af cf Am cm s) (hl : s.flows.length ≤ 4096) : Calls Tryz.prog 17 #[.pointer (some ⟨g, 0, none⟩)] w fun e w' => ∃ A c, e = .returned (.tuple #[.slice A (xcD s).1.length c, .int .i64 (xcD s).2]) ∧ Sl k48 48 w' w.heap.size (fun _ => True) A c (xcD s).1 ∧ Below w.heap.size w w' := by
 obtain ⟨c0, c1, c2, c3, c4, c5, z0, z1, z2, z3, z4, z5⟩ := blk6 h.k
 have HX := am h;have HL := am hl;clear h hl
 by_cases he : s.ended = true
 ·
  by_cases hf : s.fault = 0
  ·
   have e1 : xcD s = (s.flows, 0) := by unfold xcD; rw [if_pos he, if_pos hf]
   rw [e1]
   rw [he] at c4
   rw [hf] at c5
   clear he hf e1
   go_enter Tryz.func17, Tryz.ntmps17
   go_wp2_with (first | (go_at_call 36; go_loud ((with_reducible refine (xjD _ _ _ _ HX.out.f.C (by have := HL.out; omega)).mono ?_); rintro e w1 ⟨v, rfl, hr, hb⟩; obtain ⟨A1, k1, rfl, hs⟩ := Sl.of_R hr; have HS := am hs; have HB := am hb; clear hr hs hb)) | (go_at_call 35; go_loud ((with_reducible refine (xiE _ _ _ _ HS.out.le HS.out.lim).mono ?_); rintro e w2 ⟨rfl, hw_⟩; obtain rfl := hw_.symm)))
   go_ret2
   refine ⟨A1, _, rfl, ?_, HB.out⟩
   have h1 := HS.out.head s.flows.length s.flows.length (Nat.le_refl _) (Nat.le_refl _) HS.out.le
   rwa [List.take_length] at h1
  ·
   have e1 : xcD s = ([], s.fault) := by unfold xcD; rw [if_pos he, if_neg hf]
   have t1 : (s.fault == 0) = false := by rw [beq_eq_false_iff_ne]; exact hf
   have t2 : (s.fault != 0) = true := by rw [bne, t1]; rfl
   rw [e1]
   rw [he] at c4
   clear he hf e1
   go_enter Tryz.func17, Tryz.ntmps17
   go_wp2_with fail
   go_quiet (fail)
   go_wp2_with fail
   go_ret2
   exact ⟨none, 0, rfl, Sl.nil _ _ _ _ _, xaG (Below.refl _ _) _⟩
 ·
  have e1 : xcD s = ([], 190) := by unfold xcD; rw [if_neg he]
  rw [Bool.not_eq_true] at he
  rw [he] at c4
  rw [e1]
  clear he e1
  go_enter Tryz.func17, Tryz.ntmps17
  go_wp2_with fail
  go_ret2
  exact ⟨none, 0, rfl, Sl.nil _ _ _ _ _, Below.refl _ _⟩
end
def dOf (o : S37) : Int := if o.f0 = 1 then 1 else if 4 ≤ o.f0 then -1 else 0
def xdB (l : List S37) : Int := (l.map dOf).sum
theorem depth_take {l : List S37} {i : Nat} (h : i < l.length) : xdB (l.take (i + 1)) = xdB (l.take i) + dOf l[i] := by
  unfold xdB
  rw [List.take_succ_eq_append_getElem h, List.map_append, List.sum_append]; simp
structure Good (fxs : S37 → List S48 × Int) (l : List S37) : Prop where
 len : l.length ≤ 8192
 op : ∀ o ∈ l, OkO (fxs o) o
 fix : ∀ o ∈ l, o.f0 = 3 → FixC o (fxs o) ∧ (fxs o).1.length ≤ 100000
 dep : ∀ (i : Nat) (h : i < l.length), 4 ≤ l[i].f0 → 0 < xdB (l.take i)
 up : ∀ i, i ≤ l.length → xdB (l.take i) ≤ 63
structure Inv (s : St) : Prop where
 ok : OkS s.flows s.marks
 loc : 0 ≤ s.loc ∧ s.loc ≤ (s.code.length : Int)
 md : s.fault = 0 → (s.marks.length : Int) = xdB (s.code.take s.loc.toNat)
 ml : s.marks.length ≤ 63
def opAt (s : St) : S37 := xeE s.code s.loc
def one (fxs : S37 → List S48 × Int) (s : St) : St :=
  { s with flows := (doOp (fxs (opAt s)) (opAt s) s.flows s.marks).1, marks := (doOp (fxs (opAt s)) (opAt s) s.flows s.marks).2.1, fault := (doOp (fxs (opAt s)) (opAt s) s.flows s.marks).2.2, loc := s.loc + 1 }
def goes (s : St) : Bool := decide (s.loc < (s.code.length : Int)) && decide (s.fault = 0)
def runN (fxs : S37 → List S48 × Int) : Nat → St → Nat × St
  | 0, s => (0, s)
  | n + 1, s => if goes s = true then ((runN fxs n (one fxs s)).1 + 1, (runN fxs n (one fxs s)).2) else (0, s)
def ends (s : St) : St := { s with ended := decide (s.loc = (s.code.length : Int)) || decide (s.fault ≠ 0) }
structure Prog where
 done : Int
 ended : Bool
 fault : Int
def stepM (fxs : S37 → List S48 × Int) (s : St) (n : Int) : Prog × Int × St :=
  if s.ended = true then (⟨0, false, 0⟩, 190, s) else if n < 1 then (⟨0, false, 0⟩, 1, s)
  else (⟨(runN fxs n.toNat s).1, (ends (runN fxs n.toNat s).2).ended, (runN fxs n.toNat s).2.fault⟩, 0, ends (runN fxs n.toNat s).2)
theorem act_marks {fx : List S48 × Int} {o : S37} {fl : List S48} {ms : List Int} (hk : 1 ≤ o.f0 ∧ o.f0 ≤ 7) (hne : 4 ≤ o.f0 → ms ≠ []) (he : (act fx o fl ms).2.2 = 0) : ((act fx o fl ms).2.1.length : Int) = ms.length + dOf o := by
 have hd : ms ≠ [] → ((ms.dropLast).length : Int) = ms.length + -1 := fun h => by
  have := List.length_pos_iff.2 h
  rw [List.length_dropLast]; omega
 unfold act at he ⊢
 unfold dOf
 by_cases h1 : o.f0 = 1
 ·
  rw [if_pos h1, if_pos h1]; simp
 rw [if_neg h1] at he ⊢
 by_cases h2 : o.f0 = 2
 ·
  rw [if_pos h2, if_neg h1, if_neg (show ¬ (4 : Int) ≤ o.f0 by omega)]; split <;> simp
 rw [if_neg h2] at he ⊢
 by_cases h3 : o.f0 = 3
 ·
  rw [if_pos h3, if_neg h1, if_neg (show ¬ (4 : Int) ≤ o.f0 by omega)]; split <;> simp
 rw [if_neg h3] at he ⊢
 rw [if_neg h1, if_pos (show 4 ≤ o.f0 by omega)]
 have hne := hne (by omega)
 by_cases h4 : o.f0 = 4
 ·
  rw [if_pos h4]; exact hd hne
 rw [if_neg h4] at he ⊢
 by_cases h5 : o.f0 = 5
 ·
  rw [if_pos h5]; split
  ·
   exact hd hne
  ·
   exact hd hne
 rw [if_neg h5] at he ⊢
 by_cases h6 : o.f0 = 6
 ·
  rw [if_pos h6]; exact hd hne
 rw [if_neg h6]; exact hd hne
theorem xmF {s : St} (h0 : 0 ≤ s.loc) (h : s.loc.toNat < s.code.length) : opAt s = s.code[s.loc.toNat] := by
  unfold opAt xeE; rw [List.getD_eq_getElem?_getD, List.getElem?_eq_getElem h]; rfl
theorem xdW {s : St} : goes s = true ↔ s.loc < (s.code.length : Int) ∧ s.fault = 0 := by unfold goes; simp
theorem xhD {fxs : S37 → List S48 × Int} {s : St} (hg : Good fxs s.code) (hi : Inv s) (h : goes s = true) : OkO (fxs (opAt s)) (opAt s) ∧ (4 ≤ (opAt s).f0 → s.marks ≠ []) ∧ opAt s ∈ s.code := by
 obtain ⟨h1, h2⟩ := xdW.1 h
 have h3 : s.loc.toNat < s.code.length := by have := hi.loc; omega
 have e := xmF hi.loc.1 h3
 have hm : opAt s ∈ s.code := by rw [e]; exact List.getElem_mem h3
 refine ⟨hg.op _ hm, fun h4 hn => ?_, hm⟩
 rw [e] at h4
 have h5 := hg.dep _ h3 h4
 rw [← hi.md h2, hn] at h5
 exact absurd h5 (by decide)
theorem xhW {fxs : S37 → List S48 × Int} {s : St} (hg : Good fxs s.code) (hi : Inv s) (h : goes s = true) : Inv (one fxs s) := by
 obtain ⟨h1, h2⟩ := xdW.1 h
 obtain ⟨ho, hne, hm⟩ := xhD hg hi h
 have h3 : s.loc.toNat < s.code.length := by have := hi.loc; omega
 have e := xmF hi.loc.1 h3
 have hd : (one fxs s).fault = 0 → ((one fxs s).marks.length : Int) = xdB (s.code.take (s.loc.toNat + 1)) := fun hf => by
  have hf' : (doOp (fxs (opAt s)) (opAt s) s.flows s.marks).2.2 = 0 := hf
  show (((doOp (fxs (opAt s)) (opAt s) s.flows s.marks).2.1.length : Nat) : Int) = _
  unfold doOp at hf' ⊢
  by_cases he : (act (fxs (opAt s)) (opAt s) s.flows s.marks).2.2 = 0
  ·
   rw [if_pos he, act_marks ho.kind hne he, hi.md h2, depth_take h3, e]
  ·
   rw [if_neg he] at hf'; exact absurd hf' he
 have ht : (one fxs s).loc.toNat = s.loc.toNat + 1 := by
  show (s.loc + 1).toNat = _; have := hi.loc; omega
 refine ⟨do_ok hi.ok ho hne, ?_, fun hf => ?_, ?_⟩
 ·
  show 0 ≤ s.loc + 1 ∧ s.loc + 1 ≤ (s.code.length : Int); have := hi.loc; omega
 ·
  rw [ht]; exact hd hf
 ·
  by_cases hf : (one fxs s).fault = 0
  ·
   have h4 := hd hf
   have h5 := hg.up (s.loc.toNat + 1) (by omega)
   omega
  ·
   have hf' : ¬ (doOp (fxs (opAt s)) (opAt s) s.flows s.marks).2.2 = 0 := hf
   show (doOp (fxs (opAt s)) (opAt s) s.flows s.marks).2.1.length ≤ 63
   unfold doOp at hf' ⊢
   by_cases he : (act (fxs (opAt s)) (opAt s) s.flows s.marks).2.2 = 0
   ·
    rw [if_pos he] at hf'; exact absurd he hf'
   ·
    rw [if_neg he]; exact hi.ml
theorem one_code (fxs : S37 → List S48 × Int) (s : St) : (one fxs s).code = s.code := rfl
theorem xhQ {fxs : S37 → List S48 × Int} : ∀ (n : Nat) (s : St), Good fxs s.code → Inv s → Inv (runN fxs n s).2 ∧ (runN fxs n s).2.code = s.code ∧ (runN fxs n s).2.ended = s.ended ∧ (runN fxs n s).1 ≤ n ∧ (runN fxs n s).2.loc = s.loc + (runN fxs n s).1
 | 0, s, _, hi => ⟨hi, rfl, rfl, Nat.le_refl _, by simp [runN]⟩
 | n + 1, s, hg, hi => by
  unfold runN
  by_cases h : goes s = true
  ·
   rw [if_pos h]
   obtain ⟨h1, h2, h3, h4, h5⟩ := xhQ n (one fxs s) hg (xhW hg hi h)
   refine ⟨h1, h2, h3, by simp only; omega, ?_⟩
   have h6 : (one fxs s).loc = s.loc + 1 := rfl
   simp only
   rw [h5, h6]; omega
  ·
   rw [if_neg h]; exact ⟨hi, rfl, rfl, Nat.zero_le _, by simp⟩
theorem ends_inv {s : St} (h : Inv s) : Inv (ends s) := ⟨h.ok, h.loc, h.md, h.ml⟩
end Go.Proofs.YtkabcgmegljebaaGreatDoor.H
