/- Contracts and facts of functions of the program, joined in one text. -/
import Derived.Test.YtkabcgmegljebaaGreatDoorRGA
import Derived.Test.YtkabcgmegljebaaGreatDoorRGI
import Derived.Test.YtkabcgmegljebaaGreatDoorRGN
import Derived.Test.YtkabcgmegljebaaGreatDoorRGH
import Derived.Test.YtkabcgmegljebaaGreatDoorRGJ
import Derived.Test.YtkabcgmegljebaaGreatDoorRGC
import Derived.BigRegion
set_option maxHeartbeats 8000000
set_option maxRecDepth 100000
set_option linter.unusedVariables false
set_option linter.unusedSimpArgs false
namespace Go.Proofs.YtkabcgmegljebaaGreatDoor.D
open Go.RowKit Go.Proofs.YtkabcgmegljebaaGreatDoorW.PrintWords Go.Proofs.YtkabcgmegljebaaGreatDoorW.PrintLast Go.Proofs.YtkabcgmegljebaaGreatDoorW.PrintMore
open Go.Proofs.YtkabcgmegljebaaGreatDoor.Q Go.Proofs.YtkabcgmegljebaaGreatDoor.H
theorem in8_c (x lo hi : Int) (w : World) : Calls Tryz.prog 166 #[.int .i64 x, .int .i64 lo, .int .i64 hi] w fun e w' => e = .returned (.bool (decide (lo ≤ x ∧ x ≤ hi))) ∧ w' = w := by
 obtain ⟨b1, h1⟩ : ∃ b1, decide (lo ≤ x) = b1 := ⟨_, rfl⟩
 obtain ⟨b2, h2⟩ : ∃ b2, decide (x ≤ hi) = b2 := ⟨_, rfl⟩
 have e : decide (lo ≤ x ∧ x ≤ hi) = (b1 && b2) := by rw [← h1, ← h2, Bool.decide_and]
 rw [e]
 clear e
 cases b1
 all_goals
  go_enter Tryz.func166, Tryz.ntmps166
  go_wp2_with fail
  go_ret
  exact ⟨rfl, rfl⟩
theorem in8_yes (x lo hi : Int) (w : World) (h1 : lo ≤ x) (h2 : x ≤ hi) : Calls Tryz.prog 166 #[.int .i64 x, .int .i64 lo, .int .i64 hi] w fun e w' => e = .returned (.bool true) ∧ w' = w := by
  have h := in8_c x lo hi w
  rwa [decide_eq_true ⟨h1, h2⟩] at h
theorem in6_c (x lo hi : Int) (w : World) : Calls Tryz.prog 146 #[.int .i64 x, .int .i64 lo, .int .i64 hi] w fun e w' => e = .returned (.bool (decide (lo ≤ x ∧ x ≤ hi))) ∧ w' = w := by
 obtain ⟨b1, h1⟩ : ∃ b1, decide (lo ≤ x) = b1 := ⟨_, rfl⟩
 obtain ⟨b2, h2⟩ : ∃ b2, decide (x ≤ hi) = b2 := ⟨_, rfl⟩
 have e : decide (lo ≤ x ∧ x ≤ hi) = (b1 && b2) := by rw [← h1, ← h2, Bool.decide_and]
 rw [e]
 clear e
 cases b1
 all_goals
  go_enter Tryz.func146, Tryz.ntmps146
  go_wp2_with fail
  go_ret
  exact ⟨rfl, rfl⟩
theorem in6_yes (x lo hi : Int) (w : World) (h1 : lo ≤ x) (h2 : x ≤ hi) : Calls Tryz.prog 146 #[.int .i64 x, .int .i64 lo, .int .i64 hi] w fun e w' => e = .returned (.bool true) ∧ w' = w := by
  have h := in6_c x lo hi w
  rwa [decide_eq_true ⟨h1, h2⟩] at h
theorem isDay_c (x : Int) (w : World) : Calls Tryz.prog 147 #[.int .i64 x] w fun e w' => e = .returned (.bool (decide (0 ≤ x ∧ x ≤ 109572))) ∧ w' = w := by
 have HI := am (fun w => in6_c x 0 109572 w)
 generalize decide (0 ≤ x ∧ x ≤ 109572) = b at *
 go_enter Tryz.func147, Tryz.ntmps147
 go_wp2_with (go_at_call 146; go_loud ((with_reducible refine (HI.out _).mono ?_); rintro y w2 ⟨rfl, hw_⟩; obtain rfl := hw_.symm))
 go_ret
 exact ⟨rfl, rfl⟩
theorem xjH (w : World) : Calls Tryz.prog 125 #[.agg #[.int .i64 0, .slice none 0 0]] w fun e w' => e = .returned (.tuple #[.int .i64 0, .int .i64 0]) ∧ Below w.heap.size w w' := by
 have HI := am (fun w => in6_yes 0 0 126 w (by decide) (by decide))
 have HB : xaA (Below w.heap.size w w) := ⟨Below.refl _ _⟩
 go_enter Tryz.func125, Tryz.ntmps125
 go_upto_region 1 with ((with_reducible refine xaJ (N := 1) rfl ?_); refine bxv 1 #[.int .i64 0, .slice none 0 0] 115 ?_; intro c hg w1 hbox hb; have Bc := am hbox; have HBc := HB; replace HB := am (xaC HB.out hb); have HGc := am hg; have HLc := am (xaM hbox); clear hb hbox hg)
 have cc_ := ce2 Bc
 go_wp2_with (go_at_call 146; go_loud ((with_reducible refine (HI.out _).mono ?_); rintro y w2 ⟨rfl, hw_⟩; obtain rfl := hw_.symm))
 skip
 go_loopg [4] 0 (fun kq v4 w' => v4 = .int .i64 0 ∧ w' = w1)
 case atStart => exact ⟨rfl, rfl⟩
 case round =>
  obtain ⟨rfl, rfl⟩ := hrel
  go_wp2_with fail
  go_ret2
  exact ⟨rfl, HB.out⟩
theorem adjust_c (x : Int) (w : World) : Calls Tryz.prog 123 #[.agg #[.int .i64 0, .slice none 0 0], .int .i64 x, .int .i64 0] w fun e w' => e = .returned (.tuple #[.int .i64 (adj0 x).1, .int .i64 (adj0 x).2]) ∧ Below w.heap.size w w' := by
 have HC := am xjH
 have HI := am (fun w => in6_yes 0 0 4 w (by decide) (by decide))
 have HD := am (isDay_c x)
 have HB : xaA (Below w.heap.size w w) := ⟨Below.refl _ _⟩
 unfold adj0
 by_cases h : 0 ≤ x ∧ x ≤ 109572
 ·
  rw [decide_eq_true h] at HD
  rw [if_pos h]
  clear h
  go_enter Tryz.func123, Tryz.ntmps123
  go_upto_region 1 with ((with_reducible refine xaJ (N := 3) rfl ?_); refine bxv 3 #[.int .i64 0, .slice none 0 0] 115 ?_; intro c hg w1 hbox hb; have Bc := am hbox; have HBc := HB; replace HB := am (xaC HB.out hb); have HGc := am hg; have HLc := am (xaM hbox); clear hb hbox hg)
  have cc_ := ce2 Bc
  go_wp2_with (first | (go_at_call 125; go_loud ((with_reducible refine (HC.out _).mono ?_); rintro y w2 ⟨rfl, hb⟩; replace HB := am (xaC HB.out hb); clear hb)) | (go_at_call 146; go_loud ((with_reducible refine (HI.out _).mono ?_); rintro y w3 ⟨rfl, hw_⟩; obtain rfl := hw_.symm)) | (go_at_call 147; go_loud ((with_reducible refine (HD.out _).mono ?_); rintro y w4 ⟨rfl, hw_⟩; obtain rfl := hw_.symm)))
  go_ret2
  exact ⟨rfl, HB.out⟩
 ·
  rw [decide_eq_false h] at HD
  rw [if_neg h]
  clear h
  go_enter Tryz.func123, Tryz.ntmps123
  go_upto_region 1 with ((with_reducible refine xaJ (N := 3) rfl ?_); refine bxv 3 #[.int .i64 0, .slice none 0 0] 115 ?_; intro c hg w1 hbox hb; have Bc := am hbox; have HBc := HB; replace HB := am (xaC HB.out hb); have HGc := am hg; have HLc := am (xaM hbox); clear hb hbox hg)
  have cc_ := ce2 Bc
  go_wp2_with (first | (go_at_call 125; go_loud ((with_reducible refine (HC.out _).mono ?_); rintro y w2 ⟨rfl, hb⟩; replace HB := am (xaC HB.out hb); clear hb)) | (go_at_call 146; go_loud ((with_reducible refine (HI.out _).mono ?_); rintro y w3 ⟨rfl, hw_⟩; obtain rfl := hw_.symm)) | (go_at_call 147; go_loud ((with_reducible refine (HD.out _).mono ?_); rintro y w4 ⟨rfl, hw_⟩; obtain rfl := hw_.symm)))
  go_ret2
  exact ⟨rfl, HB.out⟩
theorem check8_c (a b n : Int) (w : World) (h : SpO a b n) : Calls Tryz.prog 144 #[spV a b n] w fun e w' => e = .returned (.int .i64 0) ∧ Below w.heap.size w w' := by
 unfold spV
 obtain ⟨⟨h1, h2, h3⟩, h4, h5⟩ := h
 have h6 : a ≤ 109572 := by omega
 have h7 : 0 ≤ b := by omega
 have t1 : decide (b ≤ a) = false := decide_eq_false (by omega)
 have HC := am xjH
 have HB : xaA (Below w.heap.size w w) := ⟨Below.refl _ _⟩
 have HI := am in8_yes;clear h2
 go_enter Tryz.func144, Tryz.ntmps144
 go_upto_region 1 with ((with_reducible refine xaJ (N := 1) rfl ?_); refine bxv 1 #[.int .i64 a, .int .i64 b, .int .i64 n, .int .i64 3, .int .i64 1, .int .i64 0, .int .i64 0, .int .i64 0, .int .i64 0, .slice none 0 0] 117 ?_; intro c hg w1 hbox hb; have Bc := am hbox; have HBc := HB; replace HB := am (xaC HB.out hb); have HGc := am hg; have HLc := am (xaM hbox); clear hb hbox hg)
 have cc_ := ce10 Bc
 go_wp2_with (first | (go_at_call 166; go_loud ((with_reducible refine (HI.out _ _ _ _ (by first | decide | assumption) (by first | decide | assumption)).mono ?_); rintro y w2 ⟨rfl, hw_⟩; obtain rfl := hw_.symm)) | (go_at_call 125; go_loud ((with_reducible refine (HC.out _).mono ?_); rintro y w3 ⟨rfl, hb⟩; replace HB := am (xaC HB.out hb); clear hb)))
 go_ret
 exact ⟨rfl, HB.out⟩
theorem point_c (a b n x k : Int) (w : World) (h : SpO a b n) (hx : 0 ≤ x ∧ x ≤ 109572) (hk : -200000 ≤ k ∧ k ≤ 200000) : Calls Tryz.prog 145 #[spV a b n, .int .i64 x, .int .i64 k] w fun e w' => e = .returned (.tuple #[.int .i64 (told (ptF n x k)).1, .bool (told (ptF n x k)).2]) ∧ Below w.heap.size w w' := by
 have HI := am (fun w => in8_yes x 0 109572 w hx.1 hx.2)
 have t1 : decide (k < -200000) = false := decide_eq_false (by omega)
 have t2 : decide (200000 < k) = false := decide_eq_false (by omega)
 have hkn := mul_rng (k := k) (n := n) (c := 200000) (by decide) hk.1 hk.2 h.n.1 h.n.2
 have hw : IntKind.i64.wrap (k * n) = k * n := by rw [i64_w]; unfold wrap64; omega
 have HC : xaA (∀ w, Calls Tryz.prog 136 #[.int .i64 x] w fun e w' => e = .returned (.tuple #[.agg #[.int .i64 (M.civY x), .int .i64 (M.civM x), .int .i64 (M.civD x)], .int .i64 0]) ∧ Below w.heap.size w w') := ⟨fun w => xiG x w hx⟩
 have hci : M.xdQ (M.civY x) (M.civM x) (M.civD x) := (M.xfS x hx.1 hx.2).1
 unfold M.xdQ at hci
 have hmv : xiZ (M.civY x) (M.civM x) (k * n) = if M.xcB x (k * n) then .tuple #[.int .i64 (M.mAt x (k * n) / 12), .int .i64 (M.mAt x (k * n) % 12 + 1), .bool true] else .tuple #[.int .i64 0, .int .i64 0, .bool false] := rfl
 have HMO : xaA (∀ w, Calls Tryz.prog 137 #[.agg #[.int .i64 (M.civY x), .int .i64 (M.civM x), .int .i64 (M.civD x)], .int .i64 (k * n)] w fun e w' => e = .returned (xiZ (M.civY x) (M.civM x) (k * n)) ∧ Below w.heap.size w w') := ⟨fun w => month_c _ _ _ _ w ⟨hci.1, hci.2.1⟩ ⟨hci.2.2.1, hci.2.2.2.1⟩⟩
 have HMS := am (fun w => months_c x (k * n) w)
 have HB : xaA (Below w.heap.size w w) := ⟨Below.refl _ _⟩
 unfold ptF
 rw [hmv] at HMO
 clear h hx hk hkn hci hmv
 unfold spV
 generalize (M.xdX x (k * n) false).1 = mr at *
 generalize (M.xdX x (k * n) false).2 = me at *
 generalize M.civY x = Y at *
 generalize M.civM x = M0 at *
 generalize M.civD x = D0 at *
 generalize M.mAt x (k * n) / 12 = y2 at *
 generalize M.mAt x (k * n) % 12 + 1 = m2 at *
 have hdec : ∃ b, decide (M.xcB x (k * n)) = b := ⟨_, rfl⟩
 by_cases hok : M.xcB x (k * n)
 all_goals
  first | rw [if_pos hok] at HMO ⊢ | rw [if_neg hok] at HMO ⊢
  clear hok hdec
  go_enter Tryz.func145, Tryz.ntmps145
  go_upto_region 1 with ((with_reducible refine xaJ (N := 3) rfl ?_); refine bxv 3 #[.int .i64 a, .int .i64 b, .int .i64 n, .int .i64 3, .int .i64 1, .int .i64 0, .int .i64 0, .int .i64 0, .int .i64 0, .slice none 0 0] 117 ?_; intro c hg w1 hbox hb; have Bc := am hbox; have HBc := HB; replace HB := am (xaC HB.out hb); have HGc := am hg; have HLc := am (xaM hbox); clear hb hbox hg)
  have cc_ := ce10 Bc
  go_upto_region 13 with (go_at_call 166; go_loud ((with_reducible refine (HI.out _).mono ?_); rintro y w2 ⟨rfl, hw_⟩; obtain rfl := hw_.symm))
  skip
  go_upto_region 14 with (first | (go_at_call 136; go_loud ((with_reducible refine (HC.out _).mono ?_); rintro y w2 ⟨rfl, hb⟩; have hs2 := am hb.size; replace HB := am (xaC HB.out hb); replace Bc := am (xaD Bc.out hb); clear hb; clear cc_)) | ((with_reducible refine xaJ (N := 10) rfl ?_); refine bxv 10 #[.int .i64 0, .int .i64 0, .int .i64 0] 198 ?_; intro g hg w3 hbox hb; have Bg := am hbox; replace Bc := am (xaD Bc.out hb); have HBg := HB; replace HB := am (xaC HB.out hb); have HGg := am hg; have HLg := am (xaM hbox); clear hb hbox hg; have hgb : xaA (w.heap.size ≤ g) := ⟨by have h1 := HGg.out; have h2 := HBg.out.size; omega⟩; have hcg : c ≠ g := (by have h1 := HGg.out; have h2 := HLc.out; have h3 := hs2.out; omega); have cg_ := cz3 Bg))
  clear cg_
  have B3 := am (put3 (.int .i64 Y) (.int .i64 M0) (.int .i64 D0) Bg.out)
  have HB3 : xaA (Below w.heap.size w (((w3.setCell ⟨g, 0, none⟩ (.int .i64 Y)).setCell ⟨g, 1, none⟩ (.int .i64 M0)).setCell ⟨g, 2, none⟩ (.int .i64 D0))) := ⟨xaF (xaF (xaF HB.out hgb.out) hgb.out) hgb.out⟩
  replace Bc := am (put3_o (.int .i64 Y) (.int .i64 M0) (.int .i64 D0) Bc.out hcg)
  clear Bg HB
  generalize (((w3.setCell ⟨g, 0, none⟩ (.int .i64 Y)).setCell ⟨g, 1, none⟩ (.int .i64 M0)).setCell ⟨g, 2, none⟩ (.int .i64 D0)) = w4 at *
  have Bg := B3;have HB := HB3;clear B3 HB3;have cg_ := ce3 Bg
  go_upto_if 74 with (go_at_call 137; go_loud ((with_reducible refine (HMO.out _).mono ?_); rintro y w5 ⟨rfl, hb⟩; replace HB := am (xaC HB.out hb); replace Bc := am (xaD Bc.out hb); clear hb))
  clear cg_;have cc_ := ce10 Bc
  go_wp2_with (go_at_call 116; go_loud ((with_reducible refine (HMS.out _).mono ?_); rintro y w6 ⟨rfl, hb⟩; replace HB := am (xaC HB.out hb); clear hb))
  go_ret2
  exact ⟨rfl, HB.out⟩
theorem in_facts {a b n : Int} {l : List Int} (h : InI a b n l) : ∃ K M K2 : Int, K = (l.length : Int) + 1 ∧ M = -1 * ((l.length : Int) + 1) ∧ IntKind.i64.wrap (K * -1) = M ∧ IntKind.i64.wrap (-K) = M ∧ (-200000 ≤ M ∧ M ≤ 200000) ∧ IntKind.i64.wrap (K + 1) = K2 ∧ K2 = (l.length : Int) + 2 := by
 have hl := h.1
 refine ⟨_, _, (l.length : Int) + 2, rfl, rfl, ?_, ?_, ⟨by omega, by omega⟩, ?_, rfl⟩
 all_goals rw [i64_w]; unfold wrap64; omega
theorem n12 {n0 : Nat} (h : n0 ≤ 1199) : IntKind.i64.wrap ((n0 : Int) + 1 + 1) = (n0 : Int) + 1 + 1 := by rw [i64_w]; unfold wrap64; omega
theorem dates_c (a b n : Int) (w : World) (h : SpO a b n) : Calls Tryz.prog 122 #[spV a b n] w fun e w' => ∃ A c, e = .returned (.tuple #[.slice A (xbR a b n).1.length c, .int .i64 (xbR a b n).2]) ∧ Own (Kd.int .i64) 3 w w' A c (xbR a b n).1 ∧ Below w.heap.size w w' := by
 have HCK := am (fun w => check8_c a b n w h)
 have HPT : xaA (∀ k w, -200000 ≤ k → k ≤ 200000 → Calls Tryz.prog 145 #[spV a b n, .int .i64 b, .int .i64 k] w fun e w' => e = .returned (.tuple #[.int .i64 (told (ptF n b k)).1, .bool (told (ptF n b k)).2]) ∧ Below w.heap.size w w') := ⟨fun k w h1 h2 => point_c a b n b k w h (by have := h.ab; omega) ⟨h1, h2⟩⟩
 unfold xbR
 have HB : xaA (Below w.heap.size w w) := ⟨Below.refl _ _⟩
 have HIN := am (in_start a b n)
 unfold spV at *
 clear h
 go_enter Tryz.func122, Tryz.ntmps122
 go_upto_region 1 with ((with_reducible refine xaJ (N := 1) rfl ?_); refine bxv 1 #[.int .i64 a, .int .i64 b, .int .i64 n, .int .i64 3, .int .i64 1, .int .i64 0, .int .i64 0, .int .i64 0, .int .i64 0, .slice none 0 0] 117 ?_; intro c hg w1 hbox hb; have Bc := am hbox; have HBc := HB; replace HB := am (xaC HB.out hb); have HGc := am hg; have HLc := am (xaM hbox); clear hb hbox hg)
 have cc_ := ce10 Bc
 go_upto_if 19 with (go_at_call 144; go_loud ((with_reducible refine (HCK.out _).mono ?_); rintro y w2 ⟨rfl, hb⟩; replace HB := am (xaC HB.out hb); replace Bc := am (xaD Bc.out hb); clear hb))
 clear cc_;have cc_ := ce10 Bc
 go_wp2_with fail
 skip
 clear cc_
 go_loopg [9, 10, 11, 12, 13] 1200 (fun kq v9 v10 v11 v12 v13 w' => ∃ (A : Option Addr) (cc : Nat) (l : List Int) (K : Int) (n0 : Nat), kq = 1200 - n0 ∧ v9 = .slice A n0 cc ∧ v10 = .bool false ∧ v11 = .int .i64 K ∧ xaA (n0 = l.length) ∧ xaA (K = (n0 : Int) + 1) ∧ xaA (InI a b n l) ∧ xaA (Own (Kd.int .i64) 3 w w' A cc l) ∧ xaA (w'.heap[c]? = some (.cells #[.int .i64 a, .int .i64 b, .int .i64 n, .int .i64 3, .int .i64 1, .int .i64 0, .int .i64 0, .int .i64 0, .int .i64 0, .slice none 0 0] 117 (0, 0))) ∧ xaA (Below w.heap.size w w'))
 case atStart => exact ⟨none, 0, [], 1, 0, rfl, rfl, rfl, rfl, ⟨rfl⟩, ⟨rfl⟩, HIN, ⟨Sl.nil _ _ _ _ _⟩, Bc, HB⟩
 case round =>
  obtain ⟨A, cc, l, K, n0, hk, rfl, rfl, rfl, HN, HK, HI, HS, Bc, HB⟩ := hrel
  obtain ⟨K', M, K2, e1, e2, a1, a2, a3, a4, a5⟩ := in_facts HI.out
  have HA1 := am a1;have HA2 := am a2;have HA4 := am a4;have HK2 := am a5;clear a1 a2 a4 a5
  obtain rfl : K' = K := by rw [e1, HK.out, HN.out]
  obtain ⟨⟨v, ok⟩, ht⟩ : ∃ p, told (ptF n b M) = p := ⟨_, rfl⟩
  have hp := HPT.out M
  rw [ht] at hp
  rw [e2] at ht
  have hr := in_round HI.out ht;have HP := am hp
  have HN1 := am (show n0 ≤ 1199 by rw [HN.out]; exact HI.out.1)
  obtain ⟨m1, m2⟩ := a3
  clear e1 e2 ht hp;have cc_ := ce10 Bc
  rcases hr with ⟨rfl, hev⟩ | ⟨rfl, hva, hev⟩ | ⟨rfl, hva, hll, hev⟩ | ⟨rfl, hva, hll, hin⟩
  ·
   have HEV := am hev;clear hev;have a1 := HA1.out;have a2 := HA2.out
   go_upto_region 17 with (go_at_call 145; go_loud ((with_reducible refine (HP.out _ m1 m2).mono ?_); rintro y w4 ⟨rfl, hb⟩; replace HS := am (HS.out.below hb); replace HB := am (xaC HB.out hb); replace Bc := am (xaD Bc.out hb); clear hb; clear cc_))
   have cc_ := ce10 Bc
   skip
   have HCL := am (Sl.C HS.out)
   have hsz := am HB.out.size
   have HO0 : xaA (Own (Kd.int .i64) 3 w4 (w4.alloc (.cells #[.int .i64 a] 3)) (some ⟨w4.heap.size, 0, none⟩) 1 [a]) := ⟨Sl.one (d := Kd.int .i64) (p := a) (cs := [.int .i64 a]) rfl rfl⟩
   have HW0 : xaA (Below w4.heap.size w4 (w4.alloc (.cells #[.int .i64 a] 3))) := ⟨xaH (Below.refl _ _) _⟩
   have HBc2 := am (xaT Bc.out (.cells #[.int .i64 a] 3))
   clear HS HI
   go_wp2_with fail
   skip
   clear cc_
   generalize w4.alloc (.cells #[.int .i64 a] 3) = w5 at *
   generalize w4.heap.size = z4 at HO0 ⊢
   go_loopg [14, 15] n0 (fun kq v14 v15 w' => ∃ (i : Nat) (A2 : Option Addr) (c2 : Nat), kq + i = n0 ∧ i ≤ n0 ∧ v14 = .slice A2 (i + 1) c2 ∧ v15 = .int .i64 (i : Int) ∧ xaA (Own (Kd.int .i64) 3 w4 w' A2 c2 (a :: l.reverse.take i)) ∧ xaA (w'.heap[c]? = some (.cells #[.int .i64 a, .int .i64 b, .int .i64 n, .int .i64 3, .int .i64 1, .int .i64 0, .int .i64 0, .int .i64 0, .int .i64 0, .slice none 0 0] 117 (0, 0))) ∧ xaA (Below w4.heap.size w4 w'))
   case atStart => exact ⟨0, _, _, Nat.add_zero _, Nat.zero_le _, rfl, rfl, HO0, HBc2, HW0⟩
   case round =>
    obtain ⟨i, A2, c2, hk2, hi, rfl, rfl, HO, HC2, HW⟩ := hrel
    by_cases hlt : i < n0
    ·
     have t5 : decide (i < n0) = true := decide_eq_true hlt
     obtain ⟨q, j, b1, b2, hj, htk, b3⟩ := xhR HN.out hlt (by have := HN1.out; omega)
     obtain ⟨ad, e, hcell⟩ := at_i (Kd.xaQ HCL.out HW.out) j (by have := HN.out; omega)
     subst e
     obtain ⟨x, hx⟩ : ∃ x, x = l.getD j 0 := ⟨_, rfl⟩
     rw [← hx] at hcell htk
     have HT := am htk
     have HM2 : xaA (n0 - (i + 1) < gk ∧ n0 - (i + 1) + (i + 1) = n0 ∧ i + 1 ≤ n0) := ⟨by omega⟩
     have HLN : xaA (i + 1 = (a :: l.reverse.take i).length) := ⟨by rw [List.length_cons, List.length_take, List.length_reverse, ← HN.out, Nat.min_eq_left hi]⟩
     have HI2 := am hi;clear hx htk hk2 hlt hi
     go_wp2_with ((with_reducible refine xaR (b := .append) (xs := #[.tmp 109, .tmp 118]) rfl ?_); go_loud (refine Sl.app1 rfl (.tmp 109) (.tmp 118) 49 (.int .i64 0) 8 rfl Tryz.underlying49 info3 rfl (by decide) (by omega) (d := Kd.int .i64) (p := x) (cs := [.int .i64 x]) (show (Kd.int .i64).K _ x [.int .i64 x] from rfl) HLN.out rfl rfl HO.out HW.out (by have := HN1.out; have := HI2.out; omega) ?_; intro A6 c6 w6 hs5 hb5 hk5; have HC6 := am (hk5 c _ _ (by decide) HC2.out); have HO6 := am hs5; have HW6 := am hb5; clear hs5 hb5 hk5))
     skip
     go_roundg (n0 - (i + 1))
     case measure => exact HM2.out.1
     case rel => exact ⟨i + 1, A6, c6, HM2.out.2.1, HM2.out.2.2, rfl, by first | rfl | rw [b3], ⟨by rw [HT.out]; exact HO6.out⟩, HC6, HW6⟩
    ·
     obtain rfl : i = n0 := by omega
     have t5 : decide (i < i) = false := decide_eq_false (by omega)
     have HLN : xaA (i + 1 = (a :: l.reverse.take i).length) := ⟨by rw [List.length_cons, List.length_take, List.length_reverse, ← HN.out, Nat.min_self]⟩
     have hall : l.reverse.take i = l.reverse := List.take_of_length_le (by rw [List.length_reverse, ← HN.out]; exact Nat.le_refl _)
     have HALL := am hall;clear hall hk2 hlt hi;have Bc := HC2;have cc_ := ce10 Bc
     go_wp2_with ((with_reducible refine xaR (b := .append) (xs := #[.tmp 127, .tmp 130]) rfl ?_); go_loud (refine Sl.app1 rfl (.tmp 127) (.tmp 130) 49 (.int .i64 0) 8 rfl Tryz.underlying49 info3 rfl (by decide) (by omega) (d := Kd.int .i64) (p := b) (cs := [.int .i64 b]) (show (Kd.int .i64).K _ b [.int .i64 b] from rfl) HLN.out rfl rfl HO.out HW.out (by have := HN1.out; omega) ?_; intro A6 c6 w6 hs5 hb5 hk5; have HO6 := am hs5; have HW6 := am hb5; clear hs5 hb5 hk5))
     go_ret2
     have h1 := HO6.out
     rw [HALL.out] at h1
     exact ⟨A6, c6, by rw [HEV.out]; simp only [datF]; rw [show (a :: l.reverse ++ [b]).length = i + 1 + 1 by simp [HN.out]]; first | done | rfl, by rw [HEV.out]; exact h1.low hsz.out, HB.out.trans (HW6.out.mono hsz.out)⟩
  ·
   have HEV := am hev
   have t1 : decide (v ≤ a) = true := decide_eq_true hva
   clear hev hva;have a1 := HA1.out;have a2 := HA2.out
   go_upto_region 17 with (go_at_call 145; go_loud ((with_reducible refine (HP.out _ m1 m2).mono ?_); rintro y w4 ⟨rfl, hb⟩; replace HS := am (HS.out.below hb); replace HB := am (xaC HB.out hb); replace Bc := am (xaD Bc.out hb); clear hb; clear cc_))
   have cc_ := ce10 Bc
   have HCL := am (Sl.C HS.out)
   have hsz := am HB.out.size
   have HO0 : xaA (Own (Kd.int .i64) 3 w4 (w4.alloc (.cells #[.int .i64 a] 3)) (some ⟨w4.heap.size, 0, none⟩) 1 [a]) := ⟨Sl.one (d := Kd.int .i64) (p := a) (cs := [.int .i64 a]) rfl rfl⟩
   have HW0 : xaA (Below w4.heap.size w4 (w4.alloc (.cells #[.int .i64 a] 3))) := ⟨xaH (Below.refl _ _) _⟩
   have HBc2 := am (xaT Bc.out (.cells #[.int .i64 a] 3))
   clear HS HI
   go_wp2_with fail
   skip
   clear cc_
   generalize w4.alloc (.cells #[.int .i64 a] 3) = w5 at *
   generalize w4.heap.size = z4 at HO0 ⊢
   go_loopg [14, 15] n0 (fun kq v14 v15 w' => ∃ (i : Nat) (A2 : Option Addr) (c2 : Nat), kq + i = n0 ∧ i ≤ n0 ∧ v14 = .slice A2 (i + 1) c2 ∧ v15 = .int .i64 (i : Int) ∧ xaA (Own (Kd.int .i64) 3 w4 w' A2 c2 (a :: l.reverse.take i)) ∧ xaA (w'.heap[c]? = some (.cells #[.int .i64 a, .int .i64 b, .int .i64 n, .int .i64 3, .int .i64 1, .int .i64 0, .int .i64 0, .int .i64 0, .int .i64 0, .slice none 0 0] 117 (0, 0))) ∧ xaA (Below w4.heap.size w4 w'))
   case atStart => exact ⟨0, _, _, Nat.add_zero _, Nat.zero_le _, rfl, rfl, HO0, HBc2, HW0⟩
   case round =>
    obtain ⟨i, A2, c2, hk2, hi, rfl, rfl, HO, HC2, HW⟩ := hrel
    by_cases hlt : i < n0
    ·
     have t5 : decide (i < n0) = true := decide_eq_true hlt
     obtain ⟨q, j, b1, b2, hj, htk, b3⟩ := xhR HN.out hlt (by have := HN1.out; omega)
     obtain ⟨ad, e, hcell⟩ := at_i (Kd.xaQ HCL.out HW.out) j (by have := HN.out; omega)
     subst e
     obtain ⟨x, hx⟩ : ∃ x, x = l.getD j 0 := ⟨_, rfl⟩
     rw [← hx] at hcell htk
     have HT := am htk
     have HM2 : xaA (n0 - (i + 1) < gk ∧ n0 - (i + 1) + (i + 1) = n0 ∧ i + 1 ≤ n0) := ⟨by omega⟩
     have HLN : xaA (i + 1 = (a :: l.reverse.take i).length) := ⟨by rw [List.length_cons, List.length_take, List.length_reverse, ← HN.out, Nat.min_eq_left hi]⟩
     have HI2 := am hi;clear hx htk hk2 hlt hi
     go_wp2_with ((with_reducible refine xaR (b := .append) (xs := #[.tmp 109, .tmp 118]) rfl ?_); go_loud (refine Sl.app1 rfl (.tmp 109) (.tmp 118) 49 (.int .i64 0) 8 rfl Tryz.underlying49 info3 rfl (by decide) (by omega) (d := Kd.int .i64) (p := x) (cs := [.int .i64 x]) (show (Kd.int .i64).K _ x [.int .i64 x] from rfl) HLN.out rfl rfl HO.out HW.out (by have := HN1.out; have := HI2.out; omega) ?_; intro A6 c6 w6 hs5 hb5 hk5; have HC6 := am (hk5 c _ _ (by decide) HC2.out); have HO6 := am hs5; have HW6 := am hb5; clear hs5 hb5 hk5))
     skip
     go_roundg (n0 - (i + 1))
     case measure => exact HM2.out.1
     case rel => exact ⟨i + 1, A6, c6, HM2.out.2.1, HM2.out.2.2, rfl, by first | rfl | rw [b3], ⟨by rw [HT.out]; exact HO6.out⟩, HC6, HW6⟩
    ·
     obtain rfl : i = n0 := by omega
     have t5 : decide (i < i) = false := decide_eq_false (by omega)
     have HLN : xaA (i + 1 = (a :: l.reverse.take i).length) := ⟨by rw [List.length_cons, List.length_take, List.length_reverse, ← HN.out, Nat.min_self]⟩
     have hall : l.reverse.take i = l.reverse := List.take_of_length_le (by rw [List.length_reverse, ← HN.out]; exact Nat.le_refl _)
     have HALL := am hall;clear hall hk2 hlt hi;have Bc := HC2;have cc_ := ce10 Bc
     go_wp2_with ((with_reducible refine xaR (b := .append) (xs := #[.tmp 127, .tmp 130]) rfl ?_); go_loud (refine Sl.app1 rfl (.tmp 127) (.tmp 130) 49 (.int .i64 0) 8 rfl Tryz.underlying49 info3 rfl (by decide) (by omega) (d := Kd.int .i64) (p := b) (cs := [.int .i64 b]) (show (Kd.int .i64).K _ b [.int .i64 b] from rfl) HLN.out rfl rfl HO.out HW.out (by have := HN1.out; omega) ?_; intro A6 c6 w6 hs5 hb5 hk5; have HO6 := am hs5; have HW6 := am hb5; clear hs5 hb5 hk5))
     go_ret2
     have h1 := HO6.out
     rw [HALL.out] at h1
     exact ⟨A6, c6, by rw [HEV.out]; simp only [datF]; rw [show (a :: l.reverse ++ [b]).length = i + 1 + 1 by simp [HN.out]]; first | done | rfl, by rw [HEV.out]; exact h1.low hsz.out, HB.out.trans (HW6.out.mono hsz.out)⟩
  ·
   have HEV := am hev
   have t1 : decide (v ≤ a) = false := decide_eq_false (by omega)
   have t2 : decide (1200 < (n0 : Int) + 1 + 1) = true := decide_eq_true (by have := HN.out; omega)
   have a6 : IntKind.i64.wrap ((n0 : Int) + 1 + 1) = (n0 : Int) + 1 + 1 := n12 HN1.out
   clear hev hva hll;have a1 := HA1.out;have a2 := HA2.out
   go_upto_region 17 with (go_at_call 145; go_loud ((with_reducible refine (HP.out _ m1 m2).mono ?_); rintro y w4 ⟨rfl, hb⟩; replace HS := am (HS.out.below hb); replace HB := am (xaC HB.out hb); replace Bc := am (xaD Bc.out hb); clear hb; clear cc_))
   skip
   go_wp2_with ((with_reducible refine xaR (b := .append) (xs := #[.tmp 69, .tmp 71]) rfl ?_); go_loud (refine Sl.app1 rfl (.tmp 69) (.tmp 71) 49 (.int .i64 0) 8 rfl Tryz.underlying49 info3 rfl (by decide) (by omega) (d := Kd.int .i64) (p := v) (cs := [.int .i64 v]) (show (Kd.int .i64).K _ v [.int .i64 v] from rfl) HN.out rfl rfl HS.out HB.out (by have := HN1.out; omega) ?_; intro A4 c4 w5 hs5 hb5 hk5; replace Bc := am (hk5 c _ _ (by decide) Bc.out); replace HS := am hs5; replace HB := am hb5; clear hs5 hb5 hk5))
   go_ret2
   exact ⟨none, 0, by rw [HEV.out]; first | done | rfl, by rw [HEV.out]; exact Sl.nil _ _ _ _ _, HB.out⟩
  ·
   have HIN := am hin
   have t1 : decide (v ≤ a) = false := decide_eq_false (by omega)
   have t2 : decide (1200 < (n0 : Int) + 1 + 1) = false := decide_eq_false (by have := HN.out; omega)
   have a6 : IntKind.i64.wrap ((n0 : Int) + 1 + 1) = (n0 : Int) + 1 + 1 := n12 HN1.out
   have HR : xaA (1200 - (n0 + 1) < gk) := ⟨by have := HN1.out; omega⟩
   clear hin hva hll hk;have a1 := HA1.out;have a2 := HA2.out;have a4 := HA4.out
   go_upto_region 17 with (go_at_call 145; go_loud ((with_reducible refine (HP.out _ m1 m2).mono ?_); rintro y w4 ⟨rfl, hb⟩; replace HS := am (HS.out.below hb); replace HB := am (xaC HB.out hb); replace Bc := am (xaD Bc.out hb); clear hb; clear cc_))
   go_wp2_with ((with_reducible refine xaR (b := .append) (xs := #[.tmp 69, .tmp 71]) rfl ?_); go_loud (refine Sl.app1 rfl (.tmp 69) (.tmp 71) 49 (.int .i64 0) 8 rfl Tryz.underlying49 info3 rfl (by decide) (by omega) (d := Kd.int .i64) (p := v) (cs := [.int .i64 v]) (show (Kd.int .i64).K _ v [.int .i64 v] from rfl) HN.out rfl rfl HS.out HB.out (by have := HN1.out; omega) ?_; intro A4 c4 w5 hs5 hb5 hk5; replace Bc := am (hk5 c _ _ (by decide) Bc.out); replace HS := am hs5; replace HB := am hb5; clear hs5 hb5 hk5))
   skip
   go_roundg (1200 - (n0 + 1))
   case measure => exact HR.out
   case rel => exact ⟨A4, c4, l ++ [v], K2, n0 + 1, rfl, rfl, rfl, by first | rfl | rw [a4], ⟨by rw [List.length_append, List.length_singleton, HN.out]⟩, ⟨by rw [HK2.out, HN.out]; omega⟩, HIN, HS, Bc, HB⟩
theorem put3e {w : World} {b : Nat} {t : TypeId} {x0 x1 z2 z3 z4 : Value} (x2 x3 x4 : Value) (h : w.heap[b]? = some (.cells #[x0, x1, z2, z3, z4] t (0, 0))) : (((w.setCell ⟨b, 2, none⟩ x2).setCell ⟨b, 3, none⟩ x3).setCell ⟨b, 4, none⟩ x4).heap[b]? = some (.cells #[x0, x1, x2, x3, x4] t (0, 0)) := by
 have q2 : (w.setCell ⟨b, 2, none⟩ x2).heap[b]? = some (.cells #[x0, x1, x2, z3, z4] t (0, 0)) := xaN h 2 x2 rfl
 have q3 : ((w.setCell ⟨b, 2, none⟩ x2).setCell ⟨b, 3, none⟩ x3).heap[b]? = some (.cells #[x0, x1, x2, x3, z4] t (0, 0)) := xaN q2 3 x3 rfl
 exact xaN q3 4 x4 rfl
theorem periods_c (a b n : Int) (w : World) (h : SpO a b n) : Calls Tryz.prog 106 #[spV a b n] w fun e w' => ∃ A c, e = .returned (.tuple #[.slice A (perA a b n).1.length c, .int .i64 (perA a b n).2]) ∧ Own k145 145 w w' A c (perA a b n).1 ∧ Below w.heap.size w w' := by
 have HDT := am (fun w => dates_c a b n w h)
 have hlen : (xbR a b n).2 = 0 → 2 ≤ (xbR a b n).1.length ∧ (xbR a b n).1.length ≤ 1202 := fun h => xiD h
 have hpe : (perA a b n) = if (xbR a b n).2 = 0 then perF (xbR a b n).1 ((xbR a b n).1.length - 1) 0 [] else ([], (xbR a b n).2) := rfl
 have HAJ := am adjust_c
 have HB : xaA (Below w.heap.size w w) := ⟨Below.refl _ _⟩
 have hperf : ∀ L : List Int, ∀ i acc, i + 1 < L.length → _ := fun L i acc => xlF (L := L) (i := i) (acc := acc)
 have HPF := am hperf
 unfold spV at *
 generalize perA a b n = R at *
 obtain ⟨rl, re⟩ := R
 generalize xbR a b n = DT at *
 obtain ⟨L, de⟩ := DT
 simp only at *
 clear h hperf
 go_enter Tryz.func106, Tryz.ntmps106
 go_upto_region 1 with ((with_reducible refine xaJ (N := 1) rfl ?_); refine bxv 1 #[.int .i64 a, .int .i64 b, .int .i64 n, .int .i64 3, .int .i64 1, .int .i64 0, .int .i64 0, .int .i64 0, .int .i64 0, .slice none 0 0] 117 ?_; intro c hg w1 hbox hb; have Bc := am hbox; have HBc := HB; replace HB := am (xaC HB.out hb); have HGc := am hg; have HLc := am (xaM hbox); clear hb hbox hg)
 have cc_ := ce10 Bc
 by_cases hde : de = 0
 ·
  subst hde
  rw [if_pos rfl] at hpe
  have HPE := am hpe
  have HLN := am (hlen rfl)
  clear hpe hlen
  go_upto_if 21 with (go_at_call 122; go_loud ((with_reducible refine (HDT.out _).mono ?_); rintro y w2 ⟨AL, cL, rfl, hs, hb⟩; have HSL := am hs; clear hs; replace HB := am (xaC HB.out hb); replace Bc := am (xaD Bc.out hb); clear hb))
  clear cc_
  obtain ⟨bL, oL, hAL⟩ := Own.addr HSL.out (by have := HLN.out; omega)
  subst hAL
  go_wp2_with fail
  skip
  obtain ⟨n0, hn0⟩ : ∃ n0, n0 = L.length := ⟨_, rfl⟩
  rw [← hn0] at HLN
  rw [show L.length = n0 from hn0.symm]
  have HN0 := am hn0;clear hn0
  go_loopg [6, 7] n0 (fun kq v6 v7 w' => ∃ (i : Nat) (A2 : Option Addr) (c2 : Nat) (acc : List S145), kq + i = n0 ∧ i + 1 ≤ n0 ∧ v6 = .slice A2 i c2 ∧ v7 = .int .i64 (i : Int) ∧ xaA (i = acc.length) ∧ xaA (Own k145 145 w2 w' A2 c2 acc) ∧ xaA (Below w2.heap.size w2 w') ∧ xaA ((rl, re) = perF L (L.length - 1 - i) i acc))
  case atStart => exact ⟨0, none, 0, [], Nat.add_zero _, by have := HLN.out; omega, rfl, rfl, ⟨rfl⟩, ⟨Sl.nil _ _ _ _ _⟩, ⟨Below.refl _ _⟩, HPE⟩
  case round =>
   obtain ⟨i, A2, c2, acc, hk2, hi, rfl, rfl, HA, HO, HW, HPR⟩ := hrel
   by_cases hlt : i + 1 < n0
   ·
    have b3 := n1s (i := i) (n0 := n0) (by omega) (by have := HLN.out; omega)
    have t5 : decide (i + 1 < n0) = true := decide_eq_true hlt
    have hpr := HPR.out
    rw [HPF.out L i acc (by have := HN0.out; omega)] at hpr
    obtain ⟨ad, e, hx⟩ := at_i (Kd.xaQ (Sl.C HSL.out) HW.out) i (by have := HN0.out; omega)
    injection e with e
    subst e
    obtain ⟨ad2, e, hy⟩ := at_i (Kd.xaQ (Sl.C HSL.out) HW.out) (i + 1) (by have := HN0.out; omega)
    injection e with e
    subst e
    rw [Addr.add_lit] at hx hy
    generalize L.getD i 0 = x at *
    generalize L.getD (i + 1) 0 = y at *
    have HA1 := am (HAJ.out x)
    have HA2 := am (HAJ.out y)
    generalize adj0 x = jx at *
    generalize adj0 y = jy at *
    obtain ⟨ax, ex⟩ := jx
    obtain ⟨ay, ey⟩ := jy
    simp only at *
    have HPR2 := am hpr
    have hin1 : i < n0 := by omega
    have hin2 : (0 : Int) ≤ (i : Int) + 1 := by omega
    have HM2 : xaA (n0 - (i + 1) < gk ∧ n0 - (i + 1) + (i + 1) = n0 ∧ i + 1 + 1 ≤ n0) := ⟨by omega⟩
    replace Bc := am (xaD Bc.out HW.out)
    clear hpr hk2 hi
    go_wp2_with fail
    skip
    refine xcA ?_
    refine xbL (n := 12) (S := fun w' => w'.cell? ⟨bL, oL + i, none⟩ = some (.int .i64 x) ∧ w'.cell? ⟨bL, oL + (i + 1), none⟩ = some (.int .i64 y)) (ds := [11]) #[false, false, false, false, false, false, false, false, false, false, false, false] (by kernel_rfl) rfl rfl ⟨hx, hy⟩ (fun hHeld => ?_)
    replace Bc := am (xaP Bc.out)
    replace HW := am (xaK HW.out)
    replace HO := am (HO.out.below (xaK (Below.refl _ _)))
    generalize wr.drew = w3 at *
    refine rP 0 ?_
    refine rP 1 ?_
    refine rP 2 ?_
    refine rT 3 ?_
    refine rP 4 ?_
    refine rP 5 ?_
    refine rP 6 ?_
    refine rP 7 ?_
    refine rT 8 ?_
    refine rP 9 ?_
    refine rO 10 (fun K hK => ?_)
    refine xbP (w1 := ?_) (v := ?_) (by rfl) rfl ?_ ?_
    rotate_left 2
    ·
     go_simp
     constructor
     ·
      rfl
     ·
      rfl
    have hh := hHeld
    refine hK.out _ _ ⟨((xaH (Below.refl w3.heap.size w3) _).cell (clt hh.1)).trans hh.1, ((xaH (Below.refl w3.heap.size w3) _).cell (clt hh.2)).trans hh.2⟩ (fun hHeld => ?_)
    clear hK K hHeld hh
    refine rN ?_
    have Bp := am (xbF w3 (.cells #[.int .i64 0, .int .i64 0, .int .i64 0, .int .i64 0, .int .i64 0] 145))
    have hb35 : Below w3.heap.size w3 ((((((w3.alloc (.cells #[.int .i64 0, .int .i64 0, .int .i64 0, .int .i64 0, .int .i64 0] 145)).setCell ⟨w3.heap.size, 0, none⟩ (.int .i64 x)).setCell ⟨w3.heap.size, 1, none⟩ (.int .i64 y)).setCell ⟨w3.heap.size, 2, none⟩ (.int .i64 0)).setCell ⟨w3.heap.size, 3, none⟩ (.int .i64 0)).setCell ⟨w3.heap.size, 4, none⟩ (.int .i64 0)) := xaF (xaF (xaF (xaF (xaF (xaH (Below.refl _ _) _) (Nat.le_refl _)) (Nat.le_refl _)) (Nat.le_refl _)) (Nat.le_refl _)) (Nat.le_refl _)
    have hps : xaA (w2.heap.size ≤ w3.heap.size) := ⟨HW.out.size⟩
    replace HO := am ((HO.out.mono (G := fun k => k < w3.heap.size) (fun k _ h => h)).below hb35)
    replace HW := am (xaC HW.out hb35)
    replace Bc := am (xaD Bc.out hb35)
    have HW35 := am hb35;clear hb35
    generalize w3.alloc (.cells #[.int .i64 0, .int .i64 0, .int .i64 0, .int .i64 0, .int .i64 0] 145) = w4 at *
    have c9_ := cz5 Bp
    refine rL 11 (fun K hK => ?_)
    refine skip_ (w1 := ?_) (by rfl) rfl ?_ ?_
    rotate_left
    ·
     go_simp
     rfl
    refine hK.out _ _ ?_
    clear hK K
    refine rD ?_
    clear c9_
    replace Bp := am (put5 (.int .i64 x) (.int .i64 y) (.int .i64 0) (.int .i64 0) (.int .i64 0) Bp.out)
    generalize (((((w4.setCell ⟨w3.heap.size, 0, none⟩ (.int .i64 x)).setCell ⟨w3.heap.size, 1, none⟩ (.int .i64 y)).setCell ⟨w3.heap.size, 2, none⟩ (.int .i64 0)).setCell ⟨w3.heap.size, 3, none⟩ (.int .i64 0)).setCell ⟨w3.heap.size, 4, none⟩ (.int .i64 0)) = w5 at *
    obtain ⟨p, hp⟩ : ∃ p, p = w3.heap.size := ⟨_, rfl⟩
    rw [← hp] at Bp hps HW35 HO ⊢
    clear hp
    skip
    have HPW : xaA (w2.heap.size ≤ p) := hps
    clear hps HW35 hx hy;have cc_ := ce10 Bc;have cp_ := cz5 Bp
    by_cases hex : ex = 0
    ·
     subst hex
     by_cases hey : ey = 0
     ·
      subst hey;have hpr2 := HPR2.out
      rw [if_pos rfl, if_pos rfl] at hpr2
      have HPR3 := am hpr2;clear hpr2
      go_upto_region 21 with (go_at_call 123; go_loud (first | ((with_reducible refine (HA1.out _).mono ?_); rintro z w6 ⟨rfl, hb⟩; replace HO := am (HO.out.below hb); replace HW := am (xaC HW.out hb); replace Bc := am (xaD Bc.out hb); replace Bp := am (xaD Bp.out hb); clear hb; clear cc_; clear cp_; have cc_ := ce10 Bc; have cp_ := cz5 Bp) | ((with_reducible refine (HA2.out _).mono ?_); rintro z w7 ⟨rfl, hb⟩; replace HO := am (HO.out.below hb); replace HW := am (xaC HW.out hb); replace Bc := am (xaD Bc.out hb); replace Bp := am (xaD Bp.out hb); clear hb; clear cc_; clear cp_; have cc_ := ce10 Bc; have cp_ := cz5 Bp)))
      skip
      go_upto_region 24 with fail
      clear cc_ cp_
      have HO2 : xaA (Own k145 145 w2 (((w7.setCell ⟨p, 2, none⟩ (.int .i64 ax)).setCell ⟨p, 3, none⟩ (.int .i64 ay)).setCell ⟨p, 4, none⟩ (.int .i64 ay)) A2 c2 acc) := ⟨(HO.out.frame (fun k hk _ => by rw [Below.heap_setCell _ ⟨p, 4, none⟩ _ k (Nat.ne_of_lt hk), Below.heap_setCell _ ⟨p, 3, none⟩ _ k (Nat.ne_of_lt hk), Below.heap_setCell _ ⟨p, 2, none⟩ _ k (Nat.ne_of_lt hk)])).mono (fun _ _ _ => trivial)⟩
      have HW2 : xaA (Below w2.heap.size w2 (((w7.setCell ⟨p, 2, none⟩ (.int .i64 ax)).setCell ⟨p, 3, none⟩ (.int .i64 ay)).setCell ⟨p, 4, none⟩ (.int .i64 ay))) := ⟨xaF (xaF (xaF HW.out HPW.out) HPW.out) HPW.out⟩
      replace Bp := am (put3e (.int .i64 ax) (.int .i64 ay) (.int .i64 ay) Bp.out)
      clear HO HW Bc
      generalize (((w7.setCell ⟨p, 2, none⟩ (.int .i64 ax)).setCell ⟨p, 3, none⟩ (.int .i64 ay)).setCell ⟨p, 4, none⟩ (.int .i64 ay)) = w8 at *
      have cp_ := ce5 Bp
      go_wp2_with ((with_reducible refine xaR (b := .append) (xs := #[.tmp 89, .tmp 91]) rfl ?_); go_loud (refine Sl.app1 rfl (.tmp 89) (.tmp 91) 139 (.agg #[.int .i64 0, .int .i64 0, .int .i64 0, .int .i64 0, .int .i64 0]) 40 rfl Tryz.underlying139 xmL rfl (by decide) (by omega) (xmK w8 (⟨x, y, ax, ay, ay⟩ : S145)) HA.out rfl rfl HO2.out HW2.out (by have := HLN.out; omega) ?_; intro A6 c6 w9 hs5 hb5 _; have HO6 := am hs5; have HW6 := am hb5; clear hs5 hb5))
      skip
      go_roundg (n0 - (i + 1))
      case measure => exact HM2.out.1
      case rel => exact ⟨i + 1, A6, c6, acc ++ [⟨x, y, ax, ay, ay⟩], HM2.out.2.1, HM2.out.2.2, rfl, by first | rfl | rw [b3], ⟨by rw [List.length_append, List.length_singleton, ← HA.out]⟩, HO6, HW6, HPR3⟩
     ·
      have t6 : (ey != 0) = true := bne_iff_ne.2 hey
      have hpr2 := HPR2.out
      rw [if_pos rfl, if_neg hey] at hpr2
      have HPR3 := am hpr2;clear hpr2 hey
      go_wp2_with (go_at_call 123; go_loud (first | ((with_reducible refine (HA1.out _).mono ?_); rintro z w6 ⟨rfl, hb⟩; replace HO := am (HO.out.below hb); replace HW := am (xaC HW.out hb); replace Bc := am (xaD Bc.out hb); replace Bp := am (xaD Bp.out hb); clear hb; clear cc_; clear cp_; have cc_ := ce10 Bc; have cp_ := cz5 Bp) | ((with_reducible refine (HA2.out _).mono ?_); rintro z w7 ⟨rfl, hb⟩; replace HO := am (HO.out.below hb); replace HW := am (xaC HW.out hb); replace Bc := am (xaD Bc.out hb); replace Bp := am (xaD Bp.out hb); clear hb; clear cc_; clear cp_; have cc_ := ce10 Bc; have cp_ := cz5 Bp)))
      go_ret2
      have h1 := HPR3.out
      injection h1 with h1 h2
      exact ⟨none, 0, by rw [h1, h2]; first | done | rfl, by rw [h1]; exact Sl.nil _ _ _ _ _, HB.out.trans (HW.out.mono HB.out.size)⟩
    ·
     have t6 : (ex != 0) = true := bne_iff_ne.2 hex
     have hpr2 := HPR2.out
     rw [if_neg hex] at hpr2
     have HPR3 := am hpr2;clear hpr2 hex
     go_wp2_with (go_at_call 123; go_loud (first | ((with_reducible refine (HA1.out _).mono ?_); rintro z w6 ⟨rfl, hb⟩; replace HO := am (HO.out.below hb); replace HW := am (xaC HW.out hb); replace Bc := am (xaD Bc.out hb); replace Bp := am (xaD Bp.out hb); clear hb; clear cc_; clear cp_; have cc_ := ce10 Bc; have cp_ := cz5 Bp) | ((with_reducible refine (HA2.out _).mono ?_); rintro z w7 ⟨rfl, hb⟩; replace HO := am (HO.out.below hb); replace HW := am (xaC HW.out hb); replace Bc := am (xaD Bc.out hb); replace Bp := am (xaD Bp.out hb); clear hb; clear cc_; clear cp_; have cc_ := ce10 Bc; have cp_ := cz5 Bp)))
     go_ret2
     have h1 := HPR3.out
     injection h1 with h1 h2
     exact ⟨none, 0, by rw [h1, h2]; first | done | rfl, by rw [h1]; exact Sl.nil _ _ _ _ _, HB.out.trans (HW.out.mono HB.out.size)⟩
   ·
    have hin0 : i + 1 = n0 := by omega
    have t5 : decide (i + 1 < n0) = false := decide_eq_false hlt
    have hpr := HPR.out
    rw [show L.length - 1 - i = 0 by have := HN0.out; omega, perF] at hpr
    have HPR2 := am hpr
    have b3 := n1s (i := i) (n0 := n0) (by omega) (by have := HLN.out; omega)
    clear hpr hk2 hi hlt
    go_wp2_with fail
    go_ret2
    have h1 := HPR2.out
    injection h1 with h1 h2
    exact ⟨A2, c2, by rw [h1, h2, ← HA.out]; first | done | rfl, by rw [h1]; exact HO.out.low HB.out.size, HB.out.trans (HW.out.mono HB.out.size)⟩
 ·
  rw [if_neg hde] at hpe
  injection hpe with h1 h2
  subst h1 h2
  have t6 : (re != 0) = true := bne_iff_ne.2 hde
  clear hde hlen HPF
  go_wp2_with (go_at_call 122; go_loud ((with_reducible refine (HDT.out _).mono ?_); rintro y w2 ⟨AL, cL, rfl, hs, hb⟩; clear hs; replace HB := am (xaC HB.out hb); replace Bc := am (xaD Bc.out hb); clear hb))
  go_ret2
  exact ⟨none, 0, rfl, Sl.nil _ _ _ _ _, HB.out⟩
theorem len_q (N : Nat) (A : Option Addr) (c : Nat) (w : World) (hr : Kd.C (Kd.int .u64) w A (dg N).length (dg N)) (hl : (dg N).length ≤ 1000) : ∀ m, Calls Tryz.prog 130 #[.slice A (dg N).length c] (w.drewN m) fun e w' => e = .returned (.int .i64 (bl N : Int)) ∧ w' = w.drewN m :=
  fun m => len_c N A c _ (Kd.xaQ hr (xaG (Below.refl _ _) m)) hl
theorem far_c (neg : Bool) (D : Nat) (e : Int) (A : Option Addr) (c : Nat) (w : World) (hr : Kd.C (Kd.int .u64) w A (dg D).length (dg D)) (hl : (dg D).length ≤ 600) (he : -30000 ≤ e ∧ e ≤ 30000) :
  Calls Tryz.prog 158 #[numV neg A (dg D).length c e] w fun x w' => x = .returned (.bool (decide (1100 < (bl D : Int) + e) || decide ((bl D : Int) + e < -1200))) ∧ Below w.heap.size w w' := by
 have hbl : bl D ≤ 32 * (dg D).length := bl_le (by rw [Nat.pow_mul]; have h := vl_lt (ok_dg D); rw [vl_dg] at h; exact h)
 obtain ⟨L, hL⟩ : ∃ L : Int, L = (bl D : Int) + e := ⟨_, rfl⟩
 have hw : IntKind.i64.wrap ((bl D : Int) + e) = L := by rw [hL, i64_w]; unfold wrap64; omega
 rw [← hL]
 obtain ⟨b1, d1⟩ : ∃ b1, decide (1100 < L) = b1 := ⟨_, rfl⟩
 obtain ⟨b2, d2⟩ : ∃ b2, decide (L < -1200) = b2 := ⟨_, rfl⟩
 rw [d1, d2]
 unfold numV
 have HR := am hr;have HL := am hl
 have HB : xaA (Below w.heap.size w w) := ⟨Below.refl _ _⟩
 clear hr hl he hL hbl
 go_enter Tryz.func158, Tryz.ntmps158
 go_wp2_with ((with_reducible refine xaJ (N := 1) rfl ?_); refine bxv 1 #[.bool neg, .slice A (dg D).length c, .int .i64 e] 172 ?_; intro g hg w1 hbox hb; have Bg := am hbox; replace HB := am (xaC HB.out hb); have HGg := am hg; clear hb hbox hg)
 have cg_ := ce3 Bg
 have HLEN := am (len_q D A c w1 (Kd.xaQ HR.out HB.out) (by have := HL.out; omega))
 skip
 cases b1
 all_goals
  go_quiet ((go_at_call 130; with_reducible exact Calls.quiet_of_same (HLEN.out _)))
  go_wp2_with fail
  go_ret
  exact ⟨rfl, xaG HB.out _⟩
def nearV (neg : Bool) (D : Nat) (e : Int) (more : Bool) : Nat :=
 if D = 0 then 0
 else if (decide (1100 < (bl D : Int) + e) || decide ((bl D : Int) + e < -1200)) = true then (if 0 < e ∨ 0 < (bl D : Int) + e then mk neg 9218868437227405312 else mk neg 0)
 else mk neg (rnd D e more)
theorem xiB (D : Nat) : ((dg D).length = 0) ↔ D = 0 := by
 constructor
 ·
  intro h
  have h1 := vl_dg D
  rw [List.eq_nil_of_length_eq_zero h] at h1
  exact h1.symm
 ·
  intro h; rw [h, dg0]; rfl
theorem rndN_le {D s : Nat} {more : Bool} (h : D / 2 ^ s < 9007199254740992) : rndN D s more ≤ 9007199254740992 := by
  unfold rndN; split <;> omega
theorem rnd_lt {D : Nat} {e : Int} {more : Bool} (h : (bl D : Int) + e ≤ 1100) : rnd D e more < 18446744073709551616 := by
 obtain ⟨h1, h2⟩ := xkF h
 unfold rnd
 split
 ·
  rename_i h3; have := rnd_up h3; omega
 ·
  rename_i h3; have := rndN_le (more := more) (xjU h3); omega
theorem xiY (neg : Bool) (D : Nat) (e : Int) (more : Bool) (A : Option Addr) (c : Nat) (w : World) (hr : Kd.C (Kd.int .u64) w A (dg D).length (dg D)) (hl : (dg D).length ≤ 600) (he : -30000 ≤ e ∧ e ≤ 30000) :
  Calls Tryz.prog 133 #[numV neg A (dg D).length c e, .bool more] w fun x w' => x = .returned (.int .u64 (nearV neg D e more : Int)) ∧ Below w.heap.size w w' := by
 have hbl : bl D ≤ 32 * (dg D).length := bl_le (by rw [Nat.pow_mul]; have h := vl_lt (ok_dg D); rw [vl_dg] at h; exact h)
 have HZ : xaA (∀ w, Calls Tryz.prog 129 #[(.agg #[.bool neg, .slice A (dg D).length c, .int .i64 e])] w fun x w' => x = .returned (.bool (decide ((dg D).length = 0))) ∧ Below w.heap.size w w') := ⟨fun w => zero_c neg A (dg D).length c e w⟩
 have HFA : xaA (∀ w', Below w.heap.size w w' → Calls Tryz.prog 158 #[(.agg #[.bool neg, .slice A (dg D).length c, .int .i64 e])] w' fun x w2 => x = .returned (.bool (decide (1100 < (bl D : Int) + e) || decide ((bl D : Int) + e < -1200))) ∧ Below w'.heap.size w' w2) := ⟨fun w' hb => far_c neg D e A c w' (Kd.xaQ hr hb) hl he⟩
 obtain ⟨zb, hzb⟩ : ∃ zb, decide ((dg D).length = 0) = zb := ⟨_, rfl⟩
 obtain ⟨fb, hfb⟩ : ∃ fb, (decide (1100 < (bl D : Int) + e) || decide ((bl D : Int) + e < -1200)) = fb := ⟨_, rfl⟩
 rw [hzb] at HZ
 rw [hfb] at HFA
 have HZB := am hzb;have HFB := am hfb;have HR := am hr;have HL := am hl;have HE := am he;have HBN := am hbl
 unfold numV
 have HB : xaA (Below w.heap.size w w) := ⟨Below.refl _ _⟩
 clear hr hl he hbl hzb hfb
 go_enter Tryz.func133, Tryz.ntmps133
 go_upto_region 1 with ((with_reducible refine xaJ (N := 2) rfl ?_); refine bxv 2 #[.bool neg, .slice A (dg D).length c, .int .i64 e] 172 ?_; intro g hg w1 hbox hb; have Bg := am hbox; replace HB := am (xaC HB.out hb); have HGg := am hg; clear hb hbox hg)
 have cg_ := ce3 Bg
 go_upto_if 6 with (go_at_call 129; go_loud ((with_reducible refine (HZ.out _).mono ?_); rintro x w2 ⟨rfl, hb⟩; replace HB := am (xaC HB.out hb); replace Bg := am (xaD Bg.out hb); clear hb))
 skip
 clear cg_;have cg_ := ce3 Bg
 cases zb with
 | true =>
  have h0 : D = 0 := (xiB D).1 (of_decide_eq_true HZB.out)
  go_wp2_with fail
  go_ret
  refine ⟨?_, HB.out⟩
  unfold nearV
  rw [if_pos h0]
  first | done | rfl
 | false =>
  have h0 : ¬ D = 0 := fun h => of_decide_eq_false HZB.out ((xiB D).2 h)
  have H0 := am h0;clear h0
  go_upto_if 8 with (go_at_call 158; go_loud ((with_reducible refine (HFA.out _ HB.out).mono ?_); rintro x w3 ⟨rfl, hb⟩; replace HB := am (xaC HB.out hb); replace Bg := am (xaD Bg.out hb); clear hb))
  skip
  clear cg_;have cg_ := ce3 Bg
  cases fb with
  | true =>
   have HLEN := am (len_q D A c w3 (Kd.xaQ HR.out HB.out) (by have := HL.out; omega))
   obtain ⟨L, hL⟩ : ∃ L : Int, L = (bl D : Int) + e := ⟨_, rfl⟩
   have hw : IntKind.i64.wrap ((bl D : Int) + e) = L := by have h1 := HE.out; have h2 := HBN.out; have h3 := HL.out; rw [hL, i64_w]; unfold wrap64; omega
   have HM1 : xaA (∀ w, Calls Tryz.prog 159 #[.bool neg, .int .u64 9218868437227405312] w fun x w' => x = .returned (.int .u64 (mk neg 9218868437227405312 : Int)) ∧ w' = w) := ⟨fun w => made_c neg 9218868437227405312 w (by decide)⟩
   have HM0 : xaA (∀ w, Calls Tryz.prog 159 #[.bool neg, .int .u64 0] w fun x w' => x = .returned (.int .u64 (mk neg 0 : Int)) ∧ w' = w) := ⟨fun w => made_c neg 0 w (by decide)⟩
   obtain ⟨b1, p1⟩ : ∃ b1, decide (0 < e) = b1 := ⟨_, rfl⟩
   obtain ⟨b2, p2⟩ : ∃ b2, decide (0 < L) = b2 := ⟨_, rfl⟩
   have HV : xaA (nearV neg D e more = if (b1 || b2) = true then mk neg 9218868437227405312 else mk neg 0) := ⟨by
    unfold nearV
    rw [if_neg H0.out, if_pos HFB.out, ← p1, ← p2, hL]
    simp only [Bool.or_eq_true, decide_eq_true_eq]⟩
   clear hL
   generalize mk neg 9218868437227405312 = v1 at HM1 HV
   generalize mk neg 0 = v0 at HM0 HV
   cases b1
   all_goals
    cases b2
    all_goals
     go_wp2_with fail
     go_quiet ((go_at_call 130; with_reducible exact Calls.quiet_of_same (HLEN.out _)))
     skip
     go_wp2_with (go_at_call 159; go_loud ((first | with_reducible refine (HM1.out _).mono ?_ | with_reducible refine (HM0.out _).mono ?_); rintro x w5 ⟨rfl, hw_⟩; obtain rfl := hw_.symm))
     go_ret
     exact ⟨by rw [HV.out]; first | done | rfl, by repeat (first | exact HB.out | apply xaG | apply xaK)⟩
  | false =>
   have hfa := HFB.out
   rw [Bool.or_eq_false_iff, decide_eq_false_iff_not, decide_eq_false_iff_not] at hfa
   have hrl := rnd_lt (D := D) (e := e) (more := more) (by omega)
   have HRD : xaA (∀ w', Below w.heap.size w w' → Calls Tryz.prog 160 #[.slice A (dg D).length c, .int .i64 e, .bool more, .int .i64 53, .int .i64 (-1074)] w' fun x w2 => x = .returned (.int .u64 (rnd D e more : Int)) ∧ Below w'.heap.size w' w2) := ⟨fun w' hb => rounded_c D e more A c w' (Kd.xaQ HR.out hb) HL.out HE.out (by omega) (by omega)⟩
   have HMD : xaA (∀ w, Calls Tryz.prog 159 #[.bool neg, .int .u64 (rnd D e more : Int)] w fun x w' => x = .returned (.int .u64 (mk neg (rnd D e more) : Int)) ∧ w' = w) := ⟨fun w => made_c neg _ w hrl⟩
   have HV : xaA (nearV neg D e more = mk neg (rnd D e more)) := ⟨by unfold nearV; rw [if_neg H0.out, if_neg (by rw [HFB.out]; decide)]⟩
   clear hfa hrl
   generalize rnd D e more = rv at HRD HMD HV
   go_wp2_with fail
   skip
   go_region_with (first | (go_at_call 160; go_loud ((with_reducible refine (HRD.out _ (by repeat (first | exact HB.out | apply xaG | apply xaK))).mono ?_); rintro x w4 ⟨rfl, hb⟩; have HB4 := am (xaC (by repeat (first | exact HB.out | apply xaG | apply xaK)) hb); have c4_0 : w4.cell? ⟨g, 0, none⟩ = some (.bool neg) := (xaB (xaD (by repeat (first | exact Bg.out | apply xaZ | apply xaP)) hb) 0).trans rfl; clear hb)) | (go_at_call 159; go_loud ((with_reducible refine (HMD.out _).mono ?_); rintro x w5 ⟨rfl, hw_⟩; obtain rfl := hw_.symm)))
   all_goals
    go_wp2_with fail
    go_ret
    exact ⟨by rw [HV.out]; first | done | rfl, by repeat (first | exact HB4.out | apply xaG | apply xaK)⟩
end Go.Proofs.YtkabcgmegljebaaGreatDoor.D
namespace Go.Proofs.YtkabcgmegljebaaGreatDoor.D
open Go.RowKit Go.Proofs.YtkabcgmegljebaaGreatDoorW.PrintWords Go.Proofs.YtkabcgmegljebaaGreatDoorW.PrintLast Go.Proofs.YtkabcgmegljebaaGreatDoorW.PrintMore
open Go.Proofs.YtkabcgmegljebaaGreatDoor.Q Go.Proofs.YtkabcgmegljebaaGreatDoor.H
open Ieee
theorem half_bit {D P : Nat} (hP : 0 < P) : (D / P % 2 = 1 ↔ P ≤ D % (2 * P)) ∧ (P ≤ D % (2 * P) → D % P = D % (2 * P) - P) := by
 have h1 : D % (2 * P) < 2 * P := Nat.mod_lt _ (by omega)
 have h2 : D = 2 * P * (D / (2 * P)) + D % (2 * P) := (Nat.div_add_mod D (2 * P)).symm
 generalize D / (2 * P) = q at h2
 generalize D % (2 * P) = r at h1 h2 ⊢
 have h3 : D / P = 2 * q + r / P := by rw [h2, show 2 * P * q + r = r + P * (2 * q) by rw [Nat.mul_comm 2 P, Nat.mul_assoc, Nat.add_comm], Nat.add_mul_div_left _ _ hP]; omega
 have h4 : D % P = r % P := by rw [h2, show 2 * P * q + r = r + P * (2 * q) by rw [Nat.mul_comm 2 P, Nat.mul_assoc, Nat.add_comm], Nat.add_mul_mod_self_left]
 rw [h3, h4]
 by_cases h : P ≤ r
 ·
  have h5 : r / P = 1 := by rw [Nat.div_eq_of_lt_le] <;> omega
  have h6 : r % P = r - P := by rw [Nat.mod_eq_sub_mod h, Nat.mod_eq_of_lt (by omega)]
  rw [h5, h6]; omega
 ·
  have h5 : r / P = 0 := Nat.div_eq_of_lt (by omega)
  rw [h5]; omega
theorem cut_is (neg : Bool) (D s : Nat) (hs : 1 ≤ s) : Toward.even.cut neg D s = rndN D s false := by
 have hlt : D < 2 ^ (D.log2 + 1) := Nat.lt_log2_self
 unfold Toward.cut rndN
 dsimp only
 rw [Nat.shiftLeft_eq, Nat.one_mul]
 by_cases h : s ≤ D.log2 + 2
 ·
  rw [Nat.min_eq_left h]
  obtain ⟨k, rfl⟩ : ∃ k, s = k + 1 := ⟨s - 1, by omega⟩
  rw [Nat.add_sub_cancel]
  have hP := Nat.two_pow_pos k
  have h2 : 2 ^ (k + 1) = 2 * 2 ^ k := by rw [Nat.pow_succ, Nat.mul_comm]
  obtain ⟨h3, h4⟩ := half_bit (D := D) hP
  rw [h2]
  generalize 2 ^ k = P at *
  have h5 : D % (2 * P) < 2 * P := Nat.mod_lt _ (by omega)
  generalize D / (2 * P) = q
  generalize D % (2 * P) = r at *
  generalize D % P = t at *
  by_cases h6 : P ≤ r
  ·
   have h7 := h4 h6
   by_cases h8 : P = r
   ·
    subst h8
    by_cases h9 : q % 2 = 1
    ·
     rw [if_pos ⟨h3.2 h6, Or.inr (Or.inr h9)⟩]; simp [h9]
    ·
     rw [if_neg (by rintro ⟨_, h | h | h⟩ <;> simp_all)]; simp [h9]
   ·
    rw [if_pos ⟨h3.2 h6, Or.inl (by omega)⟩, decide_eq_true (show 2 * P < 2 * r by omega)]; rfl
  ·
   rw [if_neg (fun h => h6 (h3.1 h.1)), decide_eq_false (show ¬ 2 * P < 2 * r by omega), beq_eq_false_iff_ne.2 (show 2 * P ≠ 2 * r by omega)]; rfl
 ·
  rw [Nat.min_eq_right (by omega)]
  have h1 : 2 ^ (D.log2 + 1) ≤ 2 ^ (s - 1) := Nat.pow_le_pow_right (by decide) (by omega)
  have h2 : 2 ^ (D.log2 + 1) ≤ 2 ^ s := Nat.pow_le_pow_right (by decide) (by omega)
  have h3 : 2 ^ (D.log2 + 2) = 2 * 2 ^ (D.log2 + 1) := by rw [Nat.pow_succ, Nat.mul_comm]
  rw [Nat.div_eq_of_lt (show D < 2 ^ (s - 1) by omega), Nat.div_eq_of_lt (show D < 2 ^ s by omega), h3, Nat.div_eq_of_lt (show D < 2 * 2 ^ (D.log2 + 1) by omega), Nat.mod_eq_of_lt (show D < 2 * 2 ^ (D.log2 + 1) by omega), if_neg (by simp), decide_eq_false (show ¬ 2 * 2 ^ (D.log2 + 1) < 2 * D by omega), beq_eq_false_iff_ne.2 (show 2 * 2 ^ (D.log2 + 1) ≠ 2 * D by omega)]; rfl
theorem cut_0 (neg : Bool) (n : Nat) : Toward.even.cut neg n 0 = n := by
  unfold Toward.cut
  simp [Nat.mod_one]
theorem xkE (neg : Bool) (u : Nat) : mk neg u = double.word neg (min u 9218868437227405312) := by
  unfold mk Format.word; rw [c_sw]; cases neg <;> simp <;> omega
theorem near_is (neg : Bool) {D : Nat} (e : Int) (h : D ≠ 0) : nearV neg D e false = double.nearest neg D e := by
 have hb := xlT h
 have hl : max (e + (D.log2 : Int) - (double.fractionBits : Int)) double.leastPlace = lsbOf D e := by
  unfold lsbOf; rw [hb, show double.fractionBits = 52 from rfl, show double.leastPlace = -1074 by decide]; omega
 unfold nearV Format.nearest
 rw [if_neg h, if_neg h]
 dsimp only
 rw [hl, c_bin, c_inf, show double.leastPlace = -1074 by decide, Int.sub_neg, xkE, xkE, xkE]
 have hls : (bl D : Int) - 53 + e ≤ lsbOf D e ∧ -1074 ≤ lsbOf D e ∧ (lsbOf D e = (bl D : Int) - 53 + e ∨ lsbOf D e = -1074) := by unfold lsbOf; omega
 have hlt : D < 2 ^ bl D := by rw [hb]; exact Nat.lt_log2_self
 unfold rnd
 generalize lsbOf D e = ls at *
 by_cases hf : (decide (1100 < (bl D : Int) + e) || decide ((bl D : Int) + e < -1200)) = true
 ·
  rw [if_pos hf]
  rw [Bool.or_eq_true, decide_eq_true_eq, decide_eq_true_eq] at hf
  by_cases hg : 1100 < (bl D : Int) + e
  ·
   rw [if_pos (Or.inr (by omega))]
   congr 1
   have h1 : 2122 ≤ (ls + 1074).toNat := by omega
   omega
  ·
   have h1 : ls = -1074 := by omega
   have h2 : bl D + 2 ≤ (ls - e).toNat := by omega
   rw [if_neg (by omega), show (e - ls).toNat = 0 by omega, Nat.shiftLeft_zero, cut_is _ _ _ (by omega)]
   have h3 : 2 ^ bl D ≤ 2 ^ ((ls - e).toNat - 1) := Nat.pow_le_pow_right (by decide) (by omega)
   have h4 : 2 ^ bl D ≤ 2 ^ (ls - e).toNat := Nat.pow_le_pow_right (by decide) (by omega)
   unfold rndN
   rw [Nat.div_eq_of_lt (show D < 2 ^ ((ls - e).toNat - 1) by omega), Nat.div_eq_of_lt (show D < 2 ^ (ls - e).toNat by omega), if_neg (by simp), show (ls + 1074).toNat = 0 by omega]
 ·
  rw [if_neg hf]
  by_cases hg : ls ≤ e
  ·
   rw [if_pos hg, show (ls - e).toNat = 0 by omega, cut_0, Nat.shiftLeft_eq]
  ·
   rw [if_neg hg, show (e - ls).toNat = 0 by omega, Nat.shiftLeft_zero, cut_is _ _ _ (by omega)]
def nanB (u : Nat) : Bool := decide (9218868437227405312 < u % 9223372036854775808)
def infB (u : Nat) : Bool := decide (u % 9223372036854775808 = 9218868437227405312)
def nulB (u : Nat) : Bool := decide (u % 9223372036854775808 = 0)
def sgV (u v : Nat) : Nat := if decide (9223372036854775808 ≤ u) != decide (9223372036854775808 ≤ v) then 9223372036854775808 else 0
def tiS (u v : Nat) : Bool := if ofM u = 0 ∨ ofM v = 0 then false else ofS u != ofS v
def tiD (u v : Nat) : Nat := ofM u * ofM v
def tiE (u v : Nat) : Int := if ofM u = 0 ∨ ofM v = 0 then 0 else ofE u + ofE v
def mulV (u v : Nat) : Nat :=
 if (nanB u || nanB v || (infB u && nulB v) || (infB v && nulB u)) = true then 9221120237041090561
 else if (infB u || infB v) = true then sgV u v + 9218868437227405312
 else sgV u v + nearV (tiS u v) (tiD u v) (tiE u v) false % 9223372036854775808
theorem read_of {u : Nat} (hu : u < 18446744073709551616) (h : numB u = true) : ∃ i, double.read u = .number (decide (9223372036854775808 ≤ u)) (ofM u) i ∧ (ofM u ≠ 0 → i = ofE u) := by
 have h1 : u % 9223372036854775808 < 9218868437227405312 := of_decide_eq_true h
 have hs : (u / 9223372036854775808 % 2 == 1) = decide (9223372036854775808 ≤ u) := by
  rw [Bool.eq_iff_iff, beq_iff_eq, decide_eq_true_eq]; omega
 unfold Format.read ofE ofM
 rw [c_sw, c_bin, c_inf, show double.leastPlace = -1074 by decide]
 simp only [hs]
 by_cases h2 : u % 9223372036854775808 < 4503599627370496
 ·
  have h3 : ¬ 0 < u / 4503599627370496 % 2048 := by omega
  rw [if_pos h2, if_neg h3]
  refine ⟨-1074, ?_, fun h4 => ?_⟩
  ·
   rw [show u % 9223372036854775808 = u % 4503599627370496 by omega]
  ·
   rw [if_neg h4, if_neg h3]
 ·
  have h3 : 0 < u / 4503599627370496 % 2048 := by omega
  rw [if_neg h2, if_pos h1, if_pos h3]
  refine ⟨-1074 + ((u % 9223372036854775808 / 4503599627370496 - 1 : Nat) : Int), ?_, fun h4 => ?_⟩
  ·
   rw [show u % 9223372036854775808 % 4503599627370496 = u % 4503599627370496 by omega, Nat.add_comm]
  ·
   rw [if_neg h4, if_pos h3]; omega
theorem xjQ (s : Bool) (r : Nat) (h : r ≤ 9218868437227405312) : double.word s r % 9223372036854775808 = r := by
  unfold Format.word; rw [c_sw]; split <;> omega
theorem mul_is {u v : Nat} (hu : u < 18446744073709551616) (hv : v < 18446744073709551616) (nu : numB u = true) (nv : numB v = true) : double.mul u v = some (mulV u v) := by
 obtain ⟨i, r1, e1⟩ := read_of hu nu
 obtain ⟨j, r2, e2⟩ := read_of hv nv
 have g1 := of_decide_eq_true nu;have g2 := of_decide_eq_true nv
 unfold Format.mul
 rw [r1, r2]
 show some (double.nearest _ _ _) = _
 congr 1
 have a1 : nanB u = false := decide_eq_false (by omega)
 have a2 : nanB v = false := decide_eq_false (by omega)
 have a3 : infB u = false := decide_eq_false (by omega)
 have a4 : infB v = false := decide_eq_false (by omega)
 have hsg : (decide (9223372036854775808 ≤ u) ^^ decide (9223372036854775808 ≤ v)) = (decide (9223372036854775808 ≤ u) != decide (9223372036854775808 ≤ v)) := rfl
 unfold mulV
 rw [a1, a2, a3, a4, if_neg (by simp), if_neg (by simp), hsg]
 unfold sgV tiS tiD tiE
 by_cases h0 : ofM u = 0 ∨ ofM v = 0
 ·
  have h1 : ofM u * ofM v = 0 := by rcases h0 with h | h <;> rw [h] <;> simp
  rw [if_pos h0, if_pos h0, h1]
  unfold nearV Format.nearest Format.word
  rw [if_pos rfl, if_pos rfl, c_sw]
  rfl
 ·
  have h2 : ofM u ≠ 0 := fun h => h0 (Or.inl h)
  have h3 : ofM v ≠ 0 := fun h => h0 (Or.inr h)
  have h1 : ofM u * ofM v ≠ 0 := Nat.mul_ne_zero h2 h3
  rw [if_neg h0, if_neg h0, near_is _ _ h1, e1 h2, e2 h3]
  unfold ofS
  rw [if_neg h2, if_neg h3]
  generalize (decide (9223372036854775808 ≤ u) != decide (9223372036854775808 ≤ v)) = s
  unfold Format.nearest
  dsimp only
  rw [if_neg h1, xjQ _ _ (by rw [c_inf]; exact Nat.min_le_right _ _)]
  unfold Format.word
  rw [c_sw]
  split <;> omega
theorem c_lp : double.leastPlace = -1074 := by decide
theorem c_fb : double.fractionBits = 52 := rfl
theorem xgC {n k : Nat} (h0 : 2 ^ k ≤ n) (h1 : n < 2 ^ (k + 1)) : n.log2 = k := by
 have hn : n ≠ 0 := by have := Nat.two_pow_pos k; omega
 have a := (Nat.le_log2 hn).2 h0
 have b := (Nat.log2_lt hn).2 h1
 omega
theorem xmJ {n : Nat} (h : n ≠ 0) : 2 ^ n.log2 ≤ n ∧ n < 2 ^ (n.log2 + 1) := ⟨(Nat.le_log2 h).1 (Nat.le_refl _), (Nat.log2_lt h).1 (Nat.lt_succ_self _)⟩
def sig (n : Nat) : Nat := n * 2 ^ (52 - n.log2)
theorem xjS {n : Nat} (h : n ≠ 0) (hl : n.log2 ≤ 52) : 4503599627370496 ≤ sig n ∧ sig n < 9007199254740992 := by
 obtain ⟨a, b⟩ := xmJ h
 have hp : 2 ^ n.log2 * 2 ^ (52 - n.log2) = 2 ^ 52 := by rw [← Nat.pow_add]; congr 1; omega
 have hp2 : 2 ^ (n.log2 + 1) * 2 ^ (52 - n.log2) = 2 ^ 53 := by rw [← Nat.pow_add]; congr 1; omega
 have h1 := Nat.mul_le_mul_right (2 ^ (52 - n.log2)) a
 have h2 := Nat.mul_lt_mul_of_pos_right b (Nat.two_pow_pos (52 - n.log2))
 rw [hp] at h1
 rw [hp2] at h2
 unfold sig
 exact ⟨h1, h2⟩
theorem xjW (s : Bool) {n : Nat} (h : n ≠ 0) (hl : n.log2 ≤ 40) : double.read (double.nearest s n 0) = .number s (sig n) ((n.log2 : Int) - 52) := by
 have hs := xjS h (by omega)
 have e0 : double.nearest s n 0 = double.word s ((n.log2 + 1022) * 4503599627370496 + sig n) := by
  unfold Format.nearest
  rw [if_neg h]
  simp only [c_lp, c_fb, c_bin, c_inf]
  have e1 : max (0 + (n.log2 : Int) - ((52 : Nat) : Int)) (-1074) = (n.log2 : Int) - 52 := by rw [Int.max_eq_left (by omega)]; omega
  rw [e1, show ((n.log2 : Int) - 52 - -1074).toNat = n.log2 + 1022 by omega, show (0 - ((n.log2 : Int) - 52)).toNat = 52 - n.log2 by omega, show ((n.log2 : Int) - 52 - 0).toNat = 0 by omega, cut_0, Nat.shiftLeft_eq]
  show double.word s (min ((n.log2 + 1022) * 4503599627370496 + sig n) 9218868437227405312) = _
  rw [Nat.min_eq_left (by omega)]
 rw [e0]
 clear e0
 generalize hr : (n.log2 + 1022) * 4503599627370496 + sig n = r
 have e1 : (double.word s r / 9223372036854775808 % 2 == 1) = s := by
  unfold Format.word
  cases s with
  | true => rw [if_pos rfl, c_sw]; rw [beq_iff_eq]; omega
  | false => rw [if_neg (by decide), beq_eq_false_iff_ne]; omega
 unfold Format.read
 simp only [c_sw, c_bin, c_inf, c_lp, e1, xjQ s r (by omega)]
 clear e1
 obtain ⟨L, hL⟩ : ∃ L, L = n.log2 := ⟨_, rfl⟩
 rw [← hL] at hr ⊢
 have hr2 : r % 4503599627370496 + 4503599627370496 = sig n ∧ r / 4503599627370496 = L + 1023 := by
  generalize sig n = S at *
  omega
 rw [if_neg (by omega), if_pos (by omega), Nat.add_comm, hr2.1, hr2.2, show (-1074 : Int) + ((L + 1023 - 1 : Nat) : Int) = (L : Int) - 52 by omega]
def upN (p q : Nat) : Nat := p * 2 ^ (70 + q.log2 - p.log2)
theorem up_rng {p q : Nat} (hp : p ≠ 0) (hq : q ≠ 0) (hpl : p.log2 ≤ 40) : 2 ^ 69 ≤ upN p q / q ∧ upN p q / q < 2 ^ 71 := by
 obtain ⟨a1, a2⟩ := xmJ hp
 obtain ⟨b1, b2⟩ := xmJ hq
 have e1 : 2 ^ p.log2 * 2 ^ (70 + q.log2 - p.log2) = 2 ^ q.log2 * 2 ^ 70 := by rw [← Nat.pow_add, ← Nat.pow_add]; congr 1; omega
 have e2 : 2 ^ (p.log2 + 1) * 2 ^ (70 + q.log2 - p.log2) = 2 ^ q.log2 * 2 ^ 71 := by rw [← Nat.pow_add, ← Nat.pow_add]; congr 1; omega
 have h1 := Nat.mul_le_mul_right (2 ^ (70 + q.log2 - p.log2)) a1
 have h2 := Nat.mul_lt_mul_of_pos_right a2 (Nat.two_pow_pos (70 + q.log2 - p.log2))
 rw [e1] at h1
 rw [e2] at h2
 rw [Nat.pow_succ] at b2
 unfold upN
 constructor
 ·
  rw [Nat.le_div_iff_mul_le (by omega)]; omega
 ·
  rw [Nat.div_lt_iff_lt_mul (by omega)]; omega
theorem sig_quo {p q : Nat} (hq : q ≠ 0) (hpl : p.log2 ≤ 40) (hql : q.log2 ≤ 40) : sig p * 2 ^ 54 / sig q = upN p q / q / 65536 ∧ (sig p * 2 ^ 54 % sig q = 0 ↔ upN p q / q % 65536 = 0 ∧ upN p q % q = 0) := by
 obtain ⟨x, hx⟩ : ∃ x, x = p * 2 ^ (54 + q.log2 - p.log2) := ⟨_, rfl⟩
 have e1 : sig p * 2 ^ 54 = x * 2 ^ (52 - q.log2) := by
  unfold sig
  rw [hx, Nat.mul_assoc, Nat.mul_assoc, ← Nat.pow_add, ← Nat.pow_add]; congr 2; omega
 have e2 : upN p q = x * 65536 := by
  unfold upN
  rw [hx, Nat.mul_assoc, show (65536 : Nat) = 2 ^ 16 from rfl, ← Nat.pow_add]; congr 2; omega
 rw [e1, e2]
 unfold sig
 rw [Nat.mul_div_mul_right _ _ (Nat.two_pow_pos _), Nat.mul_mod_mul_right]
 have hc := Nat.two_pow_pos (52 - q.log2)
 have h0 : 0 < q := by omega
 have e3 : x * 65536 / q / 65536 = x / q := by rw [Nat.div_div_eq_div_mul, Nat.mul_div_mul_right _ _ (by decide)]
 refine ⟨e3.symm, ?_⟩
 have e4 : x % q * 2 ^ (52 - q.log2) = 0 ↔ x % q = 0 := by
  rw [Nat.mul_eq_zero]; omega
 rw [e4]
 have d1 := Nat.div_add_mod x q
 have d2 := Nat.div_add_mod (x * 65536) q
 have d3 := Nat.div_add_mod (x * 65536 / q) 65536
 constructor
 ·
  intro h
  rw [h, Nat.add_zero] at d1
  have h5 : x * 65536 = q * (x / q * 65536) := by rw [← Nat.mul_assoc, d1]
  rw [h5, Nat.mul_div_cancel_left _ h0, Nat.mul_mod_right, Nat.mul_mod_left]; exact ⟨rfl, rfl⟩
 ·
  rintro ⟨h5, h6⟩
  rw [h6, Nat.add_zero] at d2
  rw [h5, Nat.add_zero] at d3
  rw [← d3, ← Nat.mul_assoc, Nat.mul_comm q 65536, Nat.mul_assoc, Nat.mul_comm x 65536] at d2
  have h7 := Nat.eq_of_mul_eq_mul_left (by decide) d2
  rw [← h7, Nat.mul_mod_right]
theorem rnd_same {Q s : Nat} (more : Bool) (hs : s = 17 ∨ s = 18) : rndN (2 * (Q / 65536) + (if Q % 65536 = 0 ∧ more = false then 0 else 1)) (s - 15) false = rndN Q s more := by
 have key : ∀ x : Nat, x = 2 * (Q / 65536) + (if Q % 65536 = 0 ∧ more = false then 0 else 1) → rndN x (s - 15) false = rndN Q s more := fun x hx => by
  have hst : (Q % 65536 = 0 ∧ more = false ∧ x = 2 * (Q / 65536)) ∨ (¬ (Q % 65536 = 0 ∧ more = false) ∧ x = 2 * (Q / 65536) + 1) := by
   by_cases h : Q % 65536 = 0 ∧ more = false
   ·
    rw [if_pos h] at hx; exact Or.inl ⟨h.1, h.2, hx⟩
   ·
    rw [if_neg h] at hx; exact Or.inr ⟨h, hx⟩
  unfold rndN
  rcases hs with rfl | rfl
  ·
   show (if x / 2 % 2 = 1 ∧ (x % 2 ≠ 0 ∨ false = true ∨ x / 4 % 2 = 1) then x / 4 + 1 else x / 4) = (if Q / 65536 % 2 = 1 ∧ (Q % 65536 ≠ 0 ∨ more = true ∨ Q / 131072 % 2 = 1) then Q / 131072 + 1 else Q / 131072)
   rcases hst with ⟨h1, rfl, h2⟩ | ⟨h1, h2⟩
   ·
    simp only [Bool.false_eq_true, false_or]; split <;> split <;> omega
   ·
    cases more <;> simp only [Bool.false_eq_true, false_or, true_or, or_true, and_true, reduceCtorEq, and_false] at h1 ⊢ <;> split <;> (try split) <;> omega
  ·
   show (if x / 4 % 2 = 1 ∧ (x % 4 ≠ 0 ∨ false = true ∨ x / 8 % 2 = 1) then x / 8 + 1 else x / 8) = (if Q / 131072 % 2 = 1 ∧ (Q % 131072 ≠ 0 ∨ more = true ∨ Q / 262144 % 2 = 1) then Q / 262144 + 1 else Q / 262144)
   rcases hst with ⟨h1, rfl, h2⟩ | ⟨h1, h2⟩
   ·
    simp only [Bool.false_eq_true, false_or]; split <;> split <;> omega
   ·
    cases more <;> simp only [Bool.false_eq_true, false_or, true_or, or_true, and_true, reduceCtorEq, and_false] at h1 ⊢ <;> split <;> (try split) <;> omega
 exact key _ rfl
theorem over_is (s : Bool) {p q : Nat} (hp : p ≠ 0) (hq : q ≠ 0) (hpl : p.log2 ≤ 40) (hql : q.log2 ≤ 40) : double.div (double.nearest s p 0) (double.nearest false q 0) = some (nearV s (upN p q / q) (-((70 + q.log2 - p.log2 : Nat) : Int)) (decide (upN p q % q ≠ 0))) := by
 have sp := xjS hp (by omega)
 have sq := xjS hq (by omega)
 obtain ⟨u1, u2⟩ := up_rng hp hq hpl
 obtain ⟨g1, g2⟩ := sig_quo hq hpl hql
 unfold Format.div
 rw [xjW s hp hpl, xjW false hq hql]
 unfold Datum.quotient
 simp only
 rw [if_neg (show ¬ sig q = 0 by omega), xgC (k := 52) sp.1 sp.2, xgC (k := 52) sq.1 sq.2, c_fb, show 52 + 2 + 52 - 52 = 54 from rfl, Nat.shiftLeft_eq]
 simp only [Option.map_some, Format.write]
 congr 1
 rw [g1, Bool.xor_false]
 obtain ⟨Q, hQ⟩ : ∃ Q, Q = upN p q / q := ⟨_, rfl⟩
 obtain ⟨m, hm⟩ : ∃ m, m = decide (upN p q % q ≠ 0) := ⟨_, rfl⟩
 have hst : (sig p * 2 ^ 54 % sig q != 0).toNat = if Q % 65536 = 0 ∧ m = false then 0 else 1 := by
  by_cases h : sig p * 2 ^ 54 % sig q = 0
  ·
   rw [h, if_pos ⟨hQ ▸ (g2.1 h).1, by rw [hm, (g2.1 h).2]; rfl⟩]; rfl
  ·
   rw [if_neg (fun hh => h (g2.2 ⟨hQ ▸ hh.1, by have := hh.2; rw [hm] at this; simpa using this⟩)), bne_iff_ne.2 h]; rfl
 rw [hst, ← hQ, ← hm]
 rw [← hQ] at u1 u2
 have hQ0 : Q ≠ 0 := by omega
 have hb := xlT hQ0
 have hbl : bl Q = 70 ∨ bl Q = 71 := by
  by_cases h : Q < 2 ^ 70
  ·
   left; rw [hb, xgC u1 h]
  ·
   right; rw [hb, xgC (by omega) u2]
 obtain ⟨n, hn⟩ : ∃ n, n = 2 * (Q / 65536) + (if Q % 65536 = 0 ∧ m = false then 0 else 1) := ⟨_, rfl⟩
 have hnl : n.log2 = bl Q - 16 := by
  have h1 : 2 * (Q / 65536) ≤ n ∧ n ≤ 2 * (Q / 65536) + 1 := by rw [hn]; split <;> omega
  by_cases h : Q < 2 ^ 70
  ·
   rw [show bl Q = 70 by rw [hb, xgC u1 h]]; exact xgC (by omega) (by omega)
  ·
   rw [show bl Q = 71 by rw [hb, xgC (by omega) u2]]; exact xgC (by omega) (by omega)
 have hn0 : n ≠ 0 := by
  intro h; rw [h] at hnl; simp at hnl; omega
 rw [← hn]
 unfold nearV Format.nearest
 rw [if_neg hn0, if_neg hQ0]
 dsimp only
 rw [if_neg (by rw [Bool.or_eq_true, decide_eq_true_eq, decide_eq_true_eq]; omega), xkE]
 unfold rnd
 have hls : lsbOf Q (-((70 + q.log2 - p.log2 : Nat) : Int)) = (bl Q : Int) - 123 - q.log2 + p.log2 := by unfold lsbOf; omega
 rw [hls, if_neg (by omega), c_lp, c_fb, c_bin, c_inf, hnl]
 have hla : max ((p.log2 : Int) - 52 - ((q.log2 : Int) - 52) - ((54 : Nat) : Int) - 1 + ((bl Q - 16 : Nat) : Int) - ((52 : Nat) : Int)) (-1074) = (bl Q : Int) - 123 - q.log2 + p.log2 := by omega
 rw [hla, show ((p.log2 : Int) - 52 - ((q.log2 : Int) - 52) - ((54 : Nat) : Int) - 1 - ((bl Q : Int) - 123 - q.log2 + p.log2)).toNat = 0 by omega, Nat.shiftLeft_zero, show ((bl Q : Int) - 123 - q.log2 + p.log2 - ((p.log2 : Int) - 52 - ((q.log2 : Int) - 52) - ((54 : Nat) : Int) - 1)).toNat = bl Q - 53 - 15 by omega, cut_is _ _ _ (by omega), hn, rnd_same m (by omega), show ((bl Q : Int) - 123 - q.log2 + p.log2 - -((70 + q.log2 - p.log2 : Nat) : Int)).toNat = bl Q - 53 by omega, Int.sub_neg]
end Go.Proofs.YtkabcgmegljebaaGreatDoor.D
namespace Go.Proofs.YtkabcgmegljebaaGreatDoor.D
open Go.RowKit Go.Proofs.YtkabcgmegljebaaGreatDoorW.PrintWords Go.Proofs.YtkabcgmegljebaaGreatDoorW.PrintLast Go.Proofs.YtkabcgmegljebaaGreatDoorW.PrintMore
open Go.Proofs.YtkabcgmegljebaaGreatDoor.Q Go.Proofs.YtkabcgmegljebaaGreatDoor.H
def tS (s1 s2 : Bool) (M N : Nat) : Bool := if M = 0 ∨ N = 0 then false else s1 != s2
def tE (M N : Nat) (e1 e2 : Int) : Int := if M = 0 ∨ N = 0 then 0 else e1 + e2
theorem times_c (s1 s2 : Bool) (M N : Nat) (e1 e2 : Int) (A1 A2 : Option Addr) (c1 c2 : Nat) (w : World) (hr1 : Kd.C (Kd.int .u64) w A1 (dg M).length (dg M)) (hr2 : Kd.C (Kd.int .u64) w A2 (dg N).length (dg N)) (hl1 : (dg M).length ≤ 300) (hl2 : (dg N).length ≤ 300) (h1 : -10000 ≤ e1 ∧ e1 ≤ 10000) (h2 : -10000 ≤ e2 ∧ e2 ≤ 10000) :
  Calls Tryz.prog 113 #[numV s1 A1 (dg M).length c1 e1, numV s2 A2 (dg N).length c2 e2] w fun x w' => ∃ A c, x = .returned (numV (tS s1 s2 M N) A (dg (M * N)).length c (tE M N e1 e2)) ∧ DG w' w.heap.size A c (M * N) ∧ Below w.heap.size w w' := by
 have HZ1 : xaA (∀ w, Calls Tryz.prog 129 #[(.agg #[.bool s1, .slice A1 (dg M).length c1, .int .i64 e1])] w fun x w' => x = .returned (.bool (decide ((dg M).length = 0))) ∧ Below w.heap.size w w') := ⟨fun w => zero_c s1 A1 (dg M).length c1 e1 w⟩
 have HZ2 : xaA (∀ w, Calls Tryz.prog 129 #[(.agg #[.bool s2, .slice A2 (dg N).length c2, .int .i64 e2])] w fun x w' => x = .returned (.bool (decide ((dg N).length = 0))) ∧ Below w.heap.size w w') := ⟨fun w => zero_c s2 A2 (dg N).length c2 e2 w⟩
 have HM : xaA (∀ w', Below w.heap.size w w' → Calls Tryz.prog 135 #[.slice A1 (dg M).length c1, .slice A2 (dg N).length c2] w' fun e w2 => ∃ A' c', e = .returned (.slice A' (dg (M * N)).length c') ∧ DG w2 w'.heap.size A' c' (M * N) ∧ Below w'.heap.size w' w2) := ⟨fun w' hb => mul_c M N A1 A2 c1 c2 w' (Kd.xaQ hr1 hb) (Kd.xaQ hr2 hb) (by omega) (by omega)⟩
 obtain ⟨z1, hz1⟩ : ∃ z, decide ((dg M).length = 0) = z := ⟨_, rfl⟩
 obtain ⟨z2, hz2⟩ : ∃ z, decide ((dg N).length = 0) = z := ⟨_, rfl⟩
 rw [hz1] at HZ1
 rw [hz2] at HZ2
 have hz3 : (M = 0 ∨ N = 0) ↔ (z1 || z2) = true := by rw [← hz1, ← hz2, Bool.or_eq_true, decide_eq_true_eq, decide_eq_true_eq, xiB, xiB]
 have hS : tS s1 s2 M N = if (z1 || z2) = true then false else s1 != s2 := by unfold tS; simp only [hz3]
 have hE : tE M N e1 e2 = if (z1 || z2) = true then 0 else e1 + e2 := by unfold tE; simp only [hz3]
 have h0 : (z1 || z2) = true → M * N = 0 := fun h => by rcases hz3.2 h with h | h <;> rw [h] <;> simp
 obtain ⟨ee, hee⟩ : ∃ ee, ee = e1 + e2 := ⟨_, rfl⟩
 have hw : IntKind.i64.wrap (e1 + e2) = ee := by rw [i64_w, hee]; unfold wrap64; omega
 rw [show (s1 != s2) = !(s1 == s2) from rfl] at hS
 rw [← hee] at hE
 have HS := am hS;have HE := am hE;have H0 := am h0
 unfold numV
 generalize M * N = MN at *
 have HB : xaA (Below w.heap.size w w) := ⟨Below.refl _ _⟩
 clear hr1 hr2 hl1 hl2 h1 h2 hz1 hz2 hz3 hS hE h0 hee
 go_enter Tryz.func113, Tryz.ntmps113
 go_upto_region 1 with (first | ((with_reducible refine xaJ (N := 2) rfl ?_); refine bxv 2 #[.bool s1, .slice A1 (dg M).length c1, .int .i64 e1] 172 ?_; intro a hg w1 hbox hb; have Ba := am hbox; have HBa := HB; replace HB := am (xaC HB.out hb); have HGa := am hg; have HLa := am (xaM hbox); clear hb hbox hg) | ((with_reducible refine xaJ (N := 3) rfl ?_); refine bxv 3 #[.bool s2, .slice A2 (dg N).length c2, .int .i64 e2] 172 ?_; intro b hg w2 hbox hb; have Bb := am hbox; replace Ba := am (xaD Ba.out hb); have HBb := HB; replace HB := am (xaC HB.out hb); have HGb := am hg; have HLb := am (xaM hbox); clear hb hbox hg) | ((with_reducible refine xaJ (N := 4) rfl ?_); refine bxv 4 #[.bool false, .slice none 0 0, .int .i64 0] 172 ?_; intro g hg w3 hbox hb; have Bg := am hbox; replace Ba := am (xaD Ba.out hb); replace Bb := am (xaD Bb.out hb); have HBg := HB; replace HB := am (xaC HB.out hb); have HGg := am hg; have HLg := am (xaM hbox); clear hb hbox hg))
 obtain ⟨ca_0, ca_1, ca_2⟩ := ce3 Ba
 obtain ⟨cb_0, cb_1, cb_2⟩ := ce3 Bb
 have hgb : xaA (w.heap.size ≤ g ∧ a ≠ g ∧ b ≠ g ∧ g < w3.heap.size) := ⟨by
  have h1 := HGa.out; have h2 := HGb.out; have h3 := HGg.out; have h4 := HLa.out; have h5 := HLb.out; have h6 := HLg.out
  omega⟩
 clear HBa HBb HBg HGa HGb HGg HLa HLb HLg
 cases z1 with
 | true =>
  go_upto_if 10 with (go_at_call 129; go_loud ((with_reducible refine (HZ1.out _).mono ?_); rintro x w4 ⟨rfl, hb⟩; replace HB := am (xaC HB.out hb); replace Bg := am (xaD Bg.out hb); clear hb))
  skip
  clear ca_0 ca_1 ca_2 cb_0 cb_1 cb_2;have cg_ := cz3 Bg
  go_wp2_with fail
  skip
  have hz := H0.out rfl;subst hz
  have B3 := put3 (.bool false) (.slice none 0 0) (.int .i64 0) Bg.out
  have HB3 : Below w.heap.size w (((w4.setCell ⟨g, 0, none⟩ (.bool false)).setCell ⟨g, 1, none⟩ (.slice none 0 0)).setCell ⟨g, 2, none⟩ (.int .i64 0)) := xaF (xaF (xaF HB.out hgb.out.1) hgb.out.1) hgb.out.1
  generalize (((w4.setCell ⟨g, 0, none⟩ (.bool false)).setCell ⟨g, 1, none⟩ (.slice none 0 0)).setCell ⟨g, 2, none⟩ (.int .i64 0)) = wz at *
  have d0 : wz.cell? ⟨g, 0, none⟩ = some (.bool false) := (xaB B3 0).trans rfl
  have d1 : wz.cell? ⟨g, 1, none⟩ = some (.slice none 0 0) := (xaB B3 1).trans rfl
  have d2 : wz.cell? ⟨g, 2, none⟩ = some (.int .i64 0) := (xaB B3 2).trans rfl
  exact bodyPost_ret (v := .agg #[.bool false, .slice none 0 0, .int .i64 0]) (by simp [results, Tryz.results113, go_sem, d0, d1, d2]) rfl ⟨none, 0, by rw [HS.out, HE.out, dg0]; rfl, by unfold DG; rw [dg0]; exact Sl.nil _ _ _ _ _, HB3⟩
 | false =>
  cases z2 with
  | true =>
   go_upto_if 10 with (go_at_call 129; go_loud (first | ((with_reducible refine (HZ1.out _).mono ?_); rintro x w4 ⟨rfl, hb⟩; replace HB := am (xaC HB.out hb); replace Bb := am (xaD Bb.out hb); replace Bg := am (xaD Bg.out hb); clear hb; clear ca_0 ca_1 ca_2 cb_0 cb_1 cb_2; obtain ⟨cb_0, cb_1, cb_2⟩ := ce3 Bb) | ((with_reducible refine (HZ2.out _).mono ?_); rintro x w5 ⟨rfl, hb⟩; replace HB := am (xaC HB.out hb); replace Bg := am (xaD Bg.out hb); clear hb)))
   clear cb_0 cb_1 cb_2;have cg_ := cz3 Bg
   go_wp2_with fail
   skip
   have hz := H0.out rfl;subst hz
   have B3 := put3 (.bool false) (.slice none 0 0) (.int .i64 0) Bg.out
   have HB3 : Below w.heap.size w (((w5.setCell ⟨g, 0, none⟩ (.bool false)).setCell ⟨g, 1, none⟩ (.slice none 0 0)).setCell ⟨g, 2, none⟩ (.int .i64 0)) := xaF (xaF (xaF HB.out hgb.out.1) hgb.out.1) hgb.out.1
   generalize (((w5.setCell ⟨g, 0, none⟩ (.bool false)).setCell ⟨g, 1, none⟩ (.slice none 0 0)).setCell ⟨g, 2, none⟩ (.int .i64 0)) = wz at *
   have d0 : wz.cell? ⟨g, 0, none⟩ = some (.bool false) := (xaB B3 0).trans rfl
   have d1 : wz.cell? ⟨g, 1, none⟩ = some (.slice none 0 0) := (xaB B3 1).trans rfl
   have d2 : wz.cell? ⟨g, 2, none⟩ = some (.int .i64 0) := (xaB B3 2).trans rfl
   exact bodyPost_ret (v := .agg #[.bool false, .slice none 0 0, .int .i64 0]) (by simp [results, Tryz.results113, go_sem, d0, d1, d2]) rfl ⟨none, 0, by rw [HS.out, HE.out, dg0]; rfl, by unfold DG; rw [dg0]; exact Sl.nil _ _ _ _ _, HB3⟩
  | false =>
   go_upto_if 10 with (go_at_call 129; go_loud (first | ((with_reducible refine (HZ1.out _).mono ?_); rintro x w4 ⟨rfl, hb⟩; replace HB := am (xaC HB.out hb); replace Ba := am (xaD Ba.out hb); replace Bb := am (xaD Bb.out hb); replace Bg := am (xaD Bg.out hb); clear hb; clear ca_0 ca_1 ca_2 cb_0 cb_1 cb_2; obtain ⟨cb_0, cb_1, cb_2⟩ := ce3 Bb) | ((with_reducible refine (HZ2.out _).mono ?_); rintro x w5 ⟨rfl, hb⟩; replace HB := am (xaC HB.out hb); replace Ba := am (xaD Ba.out hb); replace Bb := am (xaD Bb.out hb); replace Bg := am (xaD Bg.out hb); clear hb)))
   clear cb_0 cb_1 cb_2
   obtain ⟨ca_0, ca_1, ca_2⟩ := ce3 Ba
   obtain ⟨cb_0, cb_1, cb_2⟩ := ce3 Bb
   go_wp2_with fail
   skip
   refine xbL (n := 17) (S := fun w' => w'.cell? ⟨a, 0, none⟩ = some (.bool s1) ∧ w'.cell? ⟨a, 1, none⟩ = some (.slice A1 (dg M).length c1) ∧ w'.cell? ⟨a, 2, none⟩ = some (.int .i64 e1) ∧ w'.cell? ⟨b, 0, none⟩ = some (.bool s2) ∧ w'.cell? ⟨b, 1, none⟩ = some (.slice A2 (dg N).length c2) ∧ w'.cell? ⟨b, 2, none⟩ = some (.int .i64 e2)) (ds := [16]) #[false, false, false, false, false, false, false, false, false, false, false, false, false, false, false, false, false] (by kernel_rfl) rfl rfl ⟨ca_0, ca_1, ca_2, cb_0, cb_1, cb_2⟩ (fun hHeld => ?_)
   replace Bg := am (xaP Bg.out)
   replace HB := am (xaK HB.out)
   replace Ba := am (xaP Ba.out)
   replace Bb := am (xaP Bb.out)
   clear ca_0 ca_1 ca_2 cb_0 cb_1 cb_2
   generalize w5.drew = w6 at *
   refine rP 0 ?_
   refine rT 1 ?_
   refine rP 2 ?_
   refine rT 3 ?_
   refine rP 4 ?_
   refine rP 5 ?_
   refine rT 6 ?_
   refine rP 7 ?_
   refine rT 8 ?_
   refine rP 10 ?_
   refine rT 11 ?_
   refine rP 12 ?_
   refine rT 13 ?_
   refine rP 14 ?_
   refine rO 9 (fun K hK => ?_)
   refine goes_ Tryz.func135 (by kernel_rfl) rfl #[.slice A1 (dg M).length c1, .slice A2 (dg N).length c2] (by rfl) rfl rfl (by (try simp only [List.map_toArray, List.map_cons, List.map_nil]); first | done | rfl) ?_
   with_reducible refine (HM.out _ HB.out).mono ?_
   rintro x w7 ⟨A, c, rfl, hd, hb⟩
   refine ⟨_, rfl, ?_⟩
   have hg6 : g < w6.heap.size := xaM Bg.out
   have HD := am hd
   replace HB := am (xaC HB.out hb)
   replace Bg := am (xaD Bg.out hb)
   replace Ba := am (xaD Ba.out hb)
   replace Bb := am (xaD Bb.out hb)
   clear hd hb hHeld
   refine hK.out _ _ ⟨(xaB Ba.out 0).trans rfl, (xaB Ba.out 1).trans rfl, (xaB Ba.out 2).trans rfl, (xaB Bb.out 0).trans rfl, (xaB Bb.out 1).trans rfl, (xaB Bb.out 2).trans rfl⟩ (fun hHeld => ?_)
   clear hK K
   refine rN ?_
   clear hHeld Ba Bb
   refine rP 15 ?_
   skip
   have cg_ := cz3 Bg
   refine rL 16 (fun K hK => ?_)
   refine skip_ (w1 := ?_) (by rfl) rfl ?_ ?_
   rotate_left
   ·
    go_simp
    rfl
   refine hK.out _ _ ?_
   clear hK K
   refine rD ?_
   clear cg_
   go_wp2_with fail
   skip
   have B3 := put3 (.bool (!(s1 == s2))) (.slice A (dg MN).length c) (.int .i64 ee) Bg.out
   have hgs := hgb.out.1
   have HB3 : Below w.heap.size w (((w7.setCell ⟨g, 0, none⟩ (.bool (!(s1 == s2)))).setCell ⟨g, 1, none⟩ (.slice A (dg MN).length c)).setCell ⟨g, 2, none⟩ (.int .i64 ee)) := xaF (xaF (xaF HB.out hgs) hgs) hgs
   have hD3 := xkL (.bool (!(s1 == s2))) (.slice A (dg MN).length c) (.int .i64 ee) HD.out hg6 hgs
   generalize (((w7.setCell ⟨g, 0, none⟩ (.bool (!(s1 == s2)))).setCell ⟨g, 1, none⟩ (.slice A (dg MN).length c)).setCell ⟨g, 2, none⟩ (.int .i64 ee)) = wz at *
   have d0 : wz.cell? ⟨g, 0, none⟩ = some (.bool (!(s1 == s2))) := (xaB B3 0).trans rfl
   have d1 : wz.cell? ⟨g, 1, none⟩ = some (.slice A (dg MN).length c) := (xaB B3 1).trans rfl
   have d2 : wz.cell? ⟨g, 2, none⟩ = some (.int .i64 ee) := (xaB B3 2).trans rfl
   exact bodyPost_ret (v := .agg #[.bool (!(s1 == s2)), .slice A (dg MN).length c, .int .i64 ee]) (by simp [results, Tryz.results113, go_sem, d0, d1, d2]) rfl ⟨A, c, by rw [HS.out, HE.out]; first | done | rfl, hD3, HB3⟩
end Go.Proofs.YtkabcgmegljebaaGreatDoor.D
