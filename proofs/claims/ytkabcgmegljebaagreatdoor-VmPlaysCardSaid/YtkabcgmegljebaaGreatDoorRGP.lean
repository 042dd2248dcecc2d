/- Contracts and facts of functions of the program, joined in one text. -/
import Derived.Test.YtkabcgmegljebaaGreatDoorRGC
import Derived.Test.YtkabcgmegljebaaGreatDoorRGE
import Derived.Test.YtkabcgmegljebaaGreatDoorRGA
import Derived.Test.YtkabcgmegljebaaGreatDoorRGO
import Derived.BigRegion
import Derived.Test.YtkabcgmegljebaaGreatDoorRGG
import Derived.Test.YtkabcgmegljebaaGreatDoorRGI
import Derived.Test.YtkabcgmegljebaaGreatDoorRGJ
import Derived.Test.YtkabcgmegljebaaGreatDoorRGD
set_option maxHeartbeats 8000000
set_option maxRecDepth 100000
set_option linter.unusedVariables false
set_option linter.unusedSimpArgs false
namespace Go.Proofs.YtkabcgmegljebaaGreatDoor.D
open Go.RowKit Go.Proofs.YtkabcgmegljebaaGreatDoorW.PrintWords Go.Proofs.YtkabcgmegljebaaGreatDoorW.PrintLast Go.Proofs.YtkabcgmegljebaaGreatDoorW.PrintMore
open Go.Proofs.YtkabcgmegljebaaGreatDoor.Q Go.Proofs.YtkabcgmegljebaaGreatDoor.H
theorem size_c (u : Nat) (w : World) (hu : u < 18446744073709551616) : Calls Tryz.prog 111 #[.int .u64 (u : Int)] w fun x w' => x = .returned (.int .u64 ((u % 9223372036854775808 : Nat) : Int)) ∧ w' = w := by
 have h := xgH u
 go_enter Tryz.func111, Tryz.ntmps111
 go_wp2_with fail
 go_ret
 exact ⟨rfl, rfl⟩
theorem xkG (u : Nat) (w : World) : Calls Tryz.prog 50 #[.int .u64 (u : Int)] w fun x w' => x = .returned (.bool (decide (9218868437227405312 < u % 9223372036854775808))) ∧ w' = w := by
 obtain ⟨b, hb⟩ : ∃ b, decide (9218868437227405312 < u % 9223372036854775808) = b := ⟨_, rfl⟩
 have h := xgH u
 rw [hb]
 obtain ⟨v, hv⟩ : ∃ v, v = u % 9223372036854775808 := ⟨_, rfl⟩
 rw [← hv] at h hb
 have h2 : decide ((9218868437227405312 : Int) < (v : Int)) = b := by rw [← hb]; exact decide_eq_decide.2 (by omega)
 clear hv
 go_enter Tryz.func50, Tryz.ntmps50
 go_wp2_with fail
 go_ret
 exact ⟨rfl, rfl⟩
theorem xkH (u : Nat) (w : World) : Calls Tryz.prog 110 #[.int .u64 (u : Int)] w fun x w' => x = .returned (.bool (decide (u % 9223372036854775808 = 9218868437227405312))) ∧ w' = w := by
 obtain ⟨b, hb⟩ : ∃ b, decide (u % 9223372036854775808 = 9218868437227405312) = b := ⟨_, rfl⟩
 have h := xgH u
 rw [hb]
 obtain ⟨v, hv⟩ : ∃ v, v = u % 9223372036854775808 := ⟨_, rfl⟩
 rw [← hv] at h hb
 have h2 : ((v : Int) == 9218868437227405312) = b := by
  rw [← hb]
  by_cases q : v = 9218868437227405312
  ·
   subst q; rfl
  ·
   rw [decide_eq_false q]; exact beq_eq_false_iff_ne.2 (by omega)
 clear hv
 go_enter Tryz.func110, Tryz.ntmps110
 go_wp2_with fail
 go_ret
 exact ⟨rfl, rfl⟩
theorem near_c (neg : Bool) (D : Nat) (e : Int) (A : Option Addr) (c : Nat) (w : World) (hr : Kd.C (Kd.int .u64) w A (dg D).length (dg D)) (hl : (dg D).length ≤ 600) (he : -30000 ≤ e ∧ e ≤ 30000) :
  Calls Tryz.prog 112 #[numV neg A (dg D).length c e] w fun x w' => x = .returned (.int .u64 (nearV neg D e false : Int)) ∧ Below w.heap.size w w' := by
 have HNM : xaA (∀ w', Below w.heap.size w w' → Calls Tryz.prog 133 #[(.agg #[.bool neg, .slice A (dg D).length c, .int .i64 e]), .bool false] w' fun x w2 => x = .returned (.int .u64 (nearV neg D e false : Int)) ∧ Below w'.heap.size w' w2) := ⟨fun w' hb => xiY neg D e false A c w' (Kd.xaQ hr hb) hl he⟩
 unfold numV
 have HB : xaA (Below w.heap.size w w) := ⟨Below.refl _ _⟩
 clear hr hl he
 go_enter Tryz.func112, Tryz.ntmps112
 go_upto_region 1 with ((with_reducible refine xaJ (N := 1) rfl ?_); refine bxv 1 #[.bool neg, .slice A (dg D).length c, .int .i64 e] 172 ?_; intro g hg w1 hbox hb; have Bg := am hbox; replace HB := am (xaC HB.out hb); have HGg := am hg; clear hb hbox hg)
 have cg_ := ce3 Bg
 go_wp2_with (go_at_call 133; go_loud ((with_reducible refine (HNM.out _ HB.out).mono ?_); rintro x w2 ⟨rfl, hb⟩; replace HB := am (xaC HB.out hb); clear hb))
 go_ret
 exact ⟨rfl, HB.out⟩
theorem DG.C {w : World} {base c n : Nat} {A : Option Addr} (h : DG w base A c n) : Kd.C (Kd.int .u64) w A (dg n).length (dg n) := Sl.C h
theorem bv_nat (x : Nat) (h : x < 18446744073709551616) : (BitVec.ofInt 64 (x : Int)).toNat = x := by
  rw [BitVec.ofInt_natCast, BitVec.toNat_ofNat]; omega
theorem xmB {x y : Nat} (hx : x < 18446744073709551616) (hy : y < 18446744073709551616) : Go.bits .xor .u64 (x : Int) (y : Int) = ((x ^^^ y : Nat) : Int) := by
 show IntKind.wrap .u64 (((BitVec.ofInt 64 (x : Int)) ^^^ (BitVec.ofInt 64 (y : Int))).toNat : Int) = _
 rw [BitVec.toNat_xor, bv_nat x hx, bv_nat y hy]
 have h : x ^^^ y < 2 ^ 64 := Nat.xor_lt_two_pow hx hy
 exact u64_w (by omega) (by omega)
theorem and_nat {x y : Nat} (hx : x < 18446744073709551616) (hy : y < 18446744073709551616) : Go.bits .and .u64 (x : Int) (y : Int) = ((x &&& y : Nat) : Int) := by
 show IntKind.wrap .u64 (((BitVec.ofInt 64 (x : Int)) &&& (BitVec.ofInt 64 (y : Int))).toNat : Int) = _
 rw [BitVec.toNat_and, bv_nat x hx, bv_nat y hy]
 have h : x &&& y ≤ x := Nat.and_le_left
 exact u64_w (by omega) (by omega)
theorem top_bit {u : Nat} (h : u < 18446744073709551616) : u.testBit 63 = decide (9223372036854775808 ≤ u) := by
  rw [Nat.testBit_eq_decide_div_mod_eq, decide_eq_decide]; omega
theorem sg_nat {u v : Nat} (hu : u < 18446744073709551616) (hv : v < 18446744073709551616) : (u ^^^ v) &&& 9223372036854775808 = sgV u v := by
 refine Nat.eq_of_testBit_eq (fun i => ?_)
 have e : ∀ b : Bool, (if b then 9223372036854775808 else 0 : Nat).testBit i = (b && decide (63 = i)) := fun b => by
  cases b
  ·
   rw [if_neg (by decide), Nat.zero_testBit]; rfl
  ·
   rw [if_pos rfl, show 9223372036854775808 = 2 ^ 63 from rfl, Nat.testBit_two_pow]; rfl
 unfold sgV
 rw [e, Nat.testBit_and, Nat.testBit_xor, show 9223372036854775808 = 2 ^ 63 from rfl, Nat.testBit_two_pow]
 by_cases h : 63 = i
 ·
  subst h; rw [top_bit hu, top_bit hv]
 ·
  rw [decide_eq_false h, Bool.and_false, Bool.and_false]
theorem flip_nat {u : Nat} (hu : u < 18446744073709551616) : Go.bits .xor .u64 (u : Int) 9223372036854775808 = ((Op.negFloat .f64 u : Nat) : Int) := xmB (y := 9223372036854775808) hu (by decide)
theorem xdV (u : Nat) (w : World) : Calls Tryz.prog 85 #[.int .u64 (u : Int)] w fun x w' => x = .returned (.bool (numB u)) ∧ w' = w := by
 obtain ⟨b, hb⟩ : ∃ b, numB u = b := ⟨_, rfl⟩
 have h := xgH u
 rw [hb]
 unfold numB at hb
 obtain ⟨v, hv⟩ : ∃ v, v = u % 9223372036854775808 := ⟨_, rfl⟩
 rw [← hv] at h hb
 have h2 : decide ((v : Int) < 9218868437227405312) = b := by rw [← hb]; exact decide_eq_decide.2 (by omega)
 clear hv hb
 go_enter Tryz.func85, Tryz.ntmps85
 go_wp2_with fail
 go_ret
 exact ⟨rfl, rfl⟩
theorem flip_c (u : Nat) (w : World) (hu : u < 18446744073709551616) : Calls Tryz.prog 115 #[.int .u64 (u : Int)] w fun x w' => x = .returned (.int .u64 ((Op.negFloat .f64 u : Nat) : Int)) ∧ w' = w := by
 have h := flip_nat hu
 generalize Op.negFloat .f64 u = v at h ⊢
 clear hu
 go_enter Tryz.func115, Tryz.ntmps115
 go_wp2_with fail
 go_ret
 exact ⟨rfl, rfl⟩
theorem of_small (u : Nat) : (dg (ofM u)).length ≤ 2 ∧ -1075 ≤ ofE u ∧ ofE u ≤ 972 := by
 have h : ofM u < 4294967296 ^ 2 := by unfold ofM; split <;> omega
 refine ⟨dg_le h, ?_⟩
 unfold ofE; repeat' split
 all_goals omega
theorem near_lt (s : Bool) (D : Nat) (e : Int) (m : Bool) : nearV s D e m < 18446744073709551616 := by
 have h : ∀ u, mk s u < 18446744073709551616 := fun u => by unfold mk; have := Nat.min_le_right u 9218868437227405312; split <;> omega
 unfold nearV
 repeat' split
 all_goals first | exact h _ | decide
theorem xkB (u v : Nat) (w : World) (hu : u < 18446744073709551616) (hv : v < 18446744073709551616) (nu : numB u = true) (nv : numB v = true) : Calls Tryz.prog 84 #[.int .u64 (u : Int), .int .u64 (v : Int)] w fun x w' => x = .returned (.int .u64 (mulV u v : Int)) ∧ Below w.heap.size w w' := by
 have g1 := of_decide_eq_true nu;have g2 := of_decide_eq_true nv
 have a1 : decide (9218868437227405312 < u % 9223372036854775808) = false := decide_eq_false (by omega)
 have a2 : decide (9218868437227405312 < v % 9223372036854775808) = false := decide_eq_false (by omega)
 have a3 : decide (u % 9223372036854775808 = 9218868437227405312) = false := decide_eq_false (by omega)
 have a4 : decide (v % 9223372036854775808 = 9218868437227405312) = false := decide_eq_false (by omega)
 have HV : xaA (mulV u v = sgV u v + nearV (tiS u v) (tiD u v) (tiE u v) false % 9223372036854775808) := ⟨by
  unfold mulV nanB infB; rw [a1, a2, a3, a4, if_neg (by simp), if_neg (by simp)]⟩
 have HN1 : xaA (∀ w, Calls Tryz.prog 50 #[.int .u64 (u : Int)] w fun x w' => x = .returned (.bool false) ∧ w' = w) := ⟨fun w => by have h := xkG u w; rwa [a1] at h⟩
 have HN2 : xaA (∀ w, Calls Tryz.prog 50 #[.int .u64 (v : Int)] w fun x w' => x = .returned (.bool false) ∧ w' = w) := ⟨fun w => by have h := xkG v w; rwa [a2] at h⟩
 have HI1 : xaA (∀ w, Calls Tryz.prog 110 #[.int .u64 (u : Int)] w fun x w' => x = .returned (.bool false) ∧ w' = w) := ⟨fun w => by have h := xkH u w; rwa [a3] at h⟩
 have HI2 : xaA (∀ w, Calls Tryz.prog 110 #[.int .u64 (v : Int)] w fun x w' => x = .returned (.bool false) ∧ w' = w) := ⟨fun w => by have h := xkH v w; rwa [a4] at h⟩
 have HO1 := am (fun w => ofNum_c u w hu)
 have HO2 := am (fun w => ofNum_c v w hv)
 obtain ⟨l1, p1, p2⟩ := of_small u
 obtain ⟨l2, p3, p4⟩ := of_small v
 have HT : xaA (∀ w A1 c1 A2 c2, Kd.C (Kd.int .u64) w A1 (dg (ofM u)).length (dg (ofM u)) → Kd.C (Kd.int .u64) w A2 (dg (ofM v)).length (dg (ofM v)) → Calls Tryz.prog 113 #[numV (ofS u) A1 (dg (ofM u)).length c1 (ofE u), numV (ofS v) A2 (dg (ofM v)).length c2 (ofE v)] w fun x w' => ∃ A c, x = .returned (numV (tiS u v) A (dg (tiD u v)).length c (tiE u v)) ∧ DG w' w.heap.size A c (tiD u v) ∧ Below w.heap.size w w') := ⟨fun w A1 c1 A2 c2 h1 h2 => times_c _ _ _ _ _ _ _ _ _ _ w h1 h2 (by omega) (by omega) (by omega) (by omega)⟩
 have hd : (dg (tiD u v)).length ≤ 600 := by
  have h1 : ofM u < 4294967296 ^ 2 := by unfold ofM; split <;> omega
  have h2 : ofM v < 4294967296 ^ 2 := by unfold ofM; split <;> omega
  have h3 : tiD u v < 4294967296 ^ 4 := by
   have := Nat.mul_lt_mul'' h1 h2
   rw [← Nat.pow_add] at this; exact this
  have := dg_le h3; omega
 have he : -30000 ≤ tiE u v ∧ tiE u v ≤ 30000 := by unfold tiE; split <;> omega
 have HNR : xaA (∀ w A c, Kd.C (Kd.int .u64) w A (dg (tiD u v)).length (dg (tiD u v)) → Calls Tryz.prog 112 #[numV (tiS u v) A (dg (tiD u v)).length c (tiE u v)] w fun x w' => x = .returned (.int .u64 (nearV (tiS u v) (tiD u v) (tiE u v) false : Int)) ∧ Below w.heap.size w w') := ⟨fun w A c h => near_c _ _ _ A c w h hd he⟩
 have HSZ := am (fun w => size_c (nearV (tiS u v) (tiD u v) (tiE u v) false) w (near_lt _ _ _ _))
 have hx : Go.bits .xor .u64 (u : Int) (v : Int) = ((u ^^^ v : Nat) : Int) := xmB hu hv
 have hx2 : u ^^^ v < 2 ^ 64 := Nat.xor_lt_two_pow hu hv
 have hs : Go.bits .and .u64 ((u ^^^ v : Nat) : Int) 9223372036854775808 = (sgV u v : Int) := by
  rw [← sg_nat hu hv]; exact and_nat (y := 9223372036854775808) hx2 (by decide)
 have hsg : sgV u v ≤ 9223372036854775808 := by unfold sgV; split <;> omega
 have hw : IntKind.u64.wrap ((sgV u v : Int) + ((nearV (tiS u v) (tiD u v) (tiE u v) false % 9223372036854775808 : Nat) : Int)) = (mulV u v : Int) := by
  rw [HV.out]
  have h1 : nearV (tiS u v) (tiD u v) (tiE u v) false % 9223372036854775808 < 9223372036854775808 := Nat.mod_lt _ (by decide)
  exact (u64_w (by omega) (by omega)).trans (by omega)
 clear HV hd he hsg hx2 l1 l2 p1 p2 p3 p4 a1 a2 a3 a4 g1 g2 nu nv hu hv
 generalize nearV (tiS u v) (tiD u v) (tiE u v) false = nv at *
 generalize nv % 9223372036854775808 = n2 at *
 generalize mulV u v = mv at *
 generalize tiD u v = tD at *
 generalize tiE u v = tE at *
 generalize tiS u v = tS at *
 generalize sgV u v = sg at *
 generalize u ^^^ v = xx at *
 have HB : xaA (Below w.heap.size w w) := ⟨Below.refl _ _⟩
 go_enter Tryz.func84, Tryz.ntmps84
 go_wp2_with (first | (go_at_call 50; go_loud (first | ((with_reducible refine (HN1.out _).mono ?_); rintro x w2 ⟨rfl, hw_⟩; obtain rfl := hw_.symm) | ((with_reducible refine (HN2.out _).mono ?_); rintro x w2 ⟨rfl, hw_⟩; obtain rfl := hw_.symm))) | (go_at_call 110; go_loud (first | ((with_reducible refine (HI1.out _).mono ?_); rintro x w2 ⟨rfl, hw_⟩; obtain rfl := hw_.symm) | ((with_reducible refine (HI2.out _).mono ?_); rintro x w2 ⟨rfl, hw_⟩; obtain rfl := hw_.symm))) | (go_at_call 114; go_loud (first | ((with_reducible refine (HO1.out _).mono ?_); rintro x w3 ⟨A3, c3, rfl, hd, hb⟩; have HD3 := am hd; replace HB := am (xaC HB.out hb); clear hb; clear hd) | ((with_reducible refine (HO2.out _).mono ?_); rintro x w4 ⟨A4, c4, rfl, hd, hb⟩; have HD4 := am hd; replace HD3 := am (Kd.xaQ HD3.out.C hb); replace HB := am (xaC HB.out hb); clear hb; clear hd))) | (go_at_call 113; go_loud ((with_reducible refine (HT.out _ _ _ _ _ HD3.out HD4.out.C).mono ?_); rintro x w5 ⟨A5, c5, rfl, hd, hb⟩; have HD5 := am hd; replace HB := am (xaC HB.out hb); clear hb; clear hd)) | (go_at_call 112; go_loud ((with_reducible refine (HNR.out _ _ _ HD5.out.C).mono ?_); rintro x w6 ⟨rfl, hb⟩; replace HB := am (xaC HB.out hb); clear hb)) | (go_at_call 111; go_loud ((with_reducible refine (HSZ.out _).mono ?_); rintro x w7 ⟨rfl, hw_⟩; obtain rfl := hw_.symm)))
 go_ret
 exact ⟨by first | rfl | rw [hw], HB.out⟩
theorem mulInf_c (u v : Nat) (w : World) (hu : u < 18446744073709551616) (hv : v < 18446744073709551616) (iu : u % 9223372036854775808 = 9218868437227405312) (nv : numB v = true) : Calls Tryz.prog 84 #[.int .u64 (u : Int), .int .u64 (v : Int)] w fun x w' => ∃ r : Nat, x = .returned (.int .u64 (r : Int)) ∧ numB r = false ∧ w' = w := by
 have g2 := of_decide_eq_true nv
 have a1 : decide (9218868437227405312 < u % 9223372036854775808) = false := decide_eq_false (by omega)
 have a2 : decide (9218868437227405312 < v % 9223372036854775808) = false := decide_eq_false (by omega)
 have a3 : decide (u % 9223372036854775808 = 9218868437227405312) = true := decide_eq_true iu
 have a4 : decide (v % 9223372036854775808 = 9218868437227405312) = false := decide_eq_false (by omega)
 have HN1 : xaA (∀ w, Calls Tryz.prog 50 #[.int .u64 (u : Int)] w fun x w' => x = .returned (.bool false) ∧ w' = w) := ⟨fun w => by have h := xkG u w; rwa [a1] at h⟩
 have HN2 : xaA (∀ w, Calls Tryz.prog 50 #[.int .u64 (v : Int)] w fun x w' => x = .returned (.bool false) ∧ w' = w) := ⟨fun w => by have h := xkG v w; rwa [a2] at h⟩
 have HI1 : xaA (∀ w, Calls Tryz.prog 110 #[.int .u64 (u : Int)] w fun x w' => x = .returned (.bool true) ∧ w' = w) := ⟨fun w => by have h := xkH u w; rwa [a3] at h⟩
 have HI2 : xaA (∀ w, Calls Tryz.prog 110 #[.int .u64 (v : Int)] w fun x w' => x = .returned (.bool false) ∧ w' = w) := ⟨fun w => by have h := xkH v w; rwa [a4] at h⟩
 have HS := am (fun w => size_c v w hv)
 have hx : Go.bits .xor .u64 (u : Int) (v : Int) = ((u ^^^ v : Nat) : Int) := xmB hu hv
 have hx2 : u ^^^ v < 2 ^ 64 := Nat.xor_lt_two_pow hu hv
 have hs : Go.bits .and .u64 ((u ^^^ v : Nat) : Int) 9223372036854775808 = (sgV u v : Int) := by
  rw [← sg_nat hu hv]; exact and_nat (y := 9223372036854775808) hx2 (by decide)
 have hsg : sgV u v = 9223372036854775808 ∨ sgV u v = 0 := by unfold sgV; split <;> omega
 obtain ⟨s2, hs2⟩ : ∃ s2, s2 = sgV u v + 9218868437227405312 := ⟨_, rfl⟩
 have hw : IntKind.u64.wrap ((sgV u v : Int) + 9218868437227405312) = (s2 : Int) := (u64_w (by omega) (by omega)).trans (by omega)
 have hn2 : numB s2 = false := decide_eq_false (by omega)
 clear hsg hx2 hs2 a1 a2 a3 a4 g2 nv hu hv iu
 generalize sgV u v = sg at *
 generalize u ^^^ v = xx at *
 generalize v % 9223372036854775808 = vs at *
 by_cases h0 : vs = 0
 ·
  subst h0
  go_enter Tryz.func84, Tryz.ntmps84
  go_wp2_with (first | (go_at_call 50; go_loud (first | ((with_reducible refine (HN1.out _).mono ?_); rintro x w2 ⟨rfl, hw_⟩; obtain rfl := hw_.symm) | ((with_reducible refine (HN2.out _).mono ?_); rintro x w2 ⟨rfl, hw_⟩; obtain rfl := hw_.symm))) | (go_at_call 110; go_loud (first | ((with_reducible refine (HI1.out _).mono ?_); rintro x w2 ⟨rfl, hw_⟩; obtain rfl := hw_.symm) | ((with_reducible refine (HI2.out _).mono ?_); rintro x w2 ⟨rfl, hw_⟩; obtain rfl := hw_.symm))) | (go_at_call 111; go_loud ((with_reducible refine (HS.out _).mono ?_); rintro x w7 ⟨rfl, hw_⟩; obtain rfl := hw_.symm)))
  go_ret
  exact ⟨9221120237041090561, rfl, by decide, rfl⟩
 ·
  have t1 : ((vs : Int) == 0) = false := beq_eq_false_iff_ne.2 (by omega)
  clear h0
  go_enter Tryz.func84, Tryz.ntmps84
  go_wp2_with (first | (go_at_call 50; go_loud (first | ((with_reducible refine (HN1.out _).mono ?_); rintro x w2 ⟨rfl, hw_⟩; obtain rfl := hw_.symm) | ((with_reducible refine (HN2.out _).mono ?_); rintro x w2 ⟨rfl, hw_⟩; obtain rfl := hw_.symm))) | (go_at_call 110; go_loud (first | ((with_reducible refine (HI1.out _).mono ?_); rintro x w2 ⟨rfl, hw_⟩; obtain rfl := hw_.symm) | ((with_reducible refine (HI2.out _).mono ?_); rintro x w2 ⟨rfl, hw_⟩; obtain rfl := hw_.symm))) | (go_at_call 111; go_loud ((with_reducible refine (HS.out _).mono ?_); rintro x w7 ⟨rfl, hw_⟩; obtain rfl := hw_.symm)))
  go_ret
  exact ⟨s2, by first | rfl | rw [hw], hn2, rfl⟩
theorem whole_c (n : Int) (w : World) (hn : -1000000000000 < n ∧ n < 1000000000000) : Calls Tryz.prog 109 #[.int .i64 n] w fun x w' => ∃ A c, x = .returned (numV (decide (n < 0)) A (dg n.natAbs).length c 0) ∧ DG w' w.heap.size A c n.natAbs ∧ Below w.heap.size w w' := by
 obtain ⟨N, hN⟩ : ∃ N, N = n.natAbs := ⟨_, rfl⟩
 have HDG := am (fun w => digits_c N w (by omega))
 have HB : xaA (Below w.heap.size w w) := ⟨Below.refl _ _⟩
 rw [← hN]
 unfold numV
 by_cases h : n < 0
 ·
  have t1 : decide (n < 0) = true := decide_eq_true h
  rw [t1]
  obtain ⟨a, ha⟩ : ∃ a, a = n + 1 := ⟨_, rfl⟩
  obtain ⟨b, hb⟩ : ∃ b, b = -a := ⟨_, rfl⟩
  have e1 : IntKind.i64.wrap (n + 1) = a := by rw [i64_w]; unfold wrap64; omega
  have e2 : IntKind.i64.wrap (-a) = b := by rw [i64_w]; unfold wrap64; omega
  have e3 : IntKind.u64.wrap b = b := u64_w (by omega) (by omega)
  have e4 : IntKind.u64.wrap (b + 1) = (N : Int) := (u64_w (by omega) (by omega)).trans (by omega)
  clear hN hn h ha hb
  go_enter Tryz.func109, Tryz.ntmps109
  go_upto_if 4 with ((with_reducible refine xaJ (N := 2) rfl ?_); refine bxv 2 #[.bool false, .slice none 0 0, .int .i64 0] 172 ?_; intro g hg w1 hbox hb; have Bg := am hbox; have HBg := HB; replace HB := am (xaC HB.out hb); have HGg := am hg; have HLg := am (xaM hbox); clear hb hbox hg)
  have hgb : xaA (w.heap.size ≤ g) := ⟨Nat.le_of_eq HGg.out.symm⟩
  have cg_ := cz3 Bg
  go_wp2_with (go_at_call 134; go_loud ((with_reducible refine (HDG.out _).mono ?_); rintro x w2 ⟨A, c, rfl, hd, hb⟩; have HD := am hd; have hgl := xaM Bg.out; replace HB := am (xaC HB.out hb); replace Bg := am (xaD Bg.out hb); clear hb; clear cg_ hd; have cg_ := cz3 Bg))
  skip
  have B3 := put3 (.bool true) (.slice A (dg N).length c) (.int .i64 0) Bg.out
  have HB3 : Below w.heap.size w (((w2.setCell ⟨g, 0, none⟩ (.bool true)).setCell ⟨g, 1, none⟩ (.slice A (dg N).length c)).setCell ⟨g, 2, none⟩ (.int .i64 0)) := xaF (xaF (xaF HB.out hgb.out) hgb.out) hgb.out
  have hD3 := xkL (.bool true) (.slice A (dg N).length c) (.int .i64 0) HD.out hgl hgb.out
  generalize (((w2.setCell ⟨g, 0, none⟩ (.bool true)).setCell ⟨g, 1, none⟩ (.slice A (dg N).length c)).setCell ⟨g, 2, none⟩ (.int .i64 0)) = wz at *
  have d0 : wz.cell? ⟨g, 0, none⟩ = some (.bool true) := (xaB B3 0).trans rfl
  have d1 : wz.cell? ⟨g, 1, none⟩ = some (.slice A (dg N).length c) := (xaB B3 1).trans rfl
  have d2 : wz.cell? ⟨g, 2, none⟩ = some (.int .i64 0) := (xaB B3 2).trans rfl
  exact bodyPost_ret (v := .agg #[.bool true, .slice A (dg N).length c, .int .i64 0]) (by simp [results, Tryz.results109, go_sem, d0, d1, d2]) rfl ⟨A, c, rfl, hD3, HB3⟩
 ·
  have t1 : decide (n < 0) = false := decide_eq_false h
  rw [t1]
  have e3 : IntKind.u64.wrap n = (N : Int) := (u64_w (by omega) (by omega)).trans (by omega)
  clear hN hn h
  go_enter Tryz.func109, Tryz.ntmps109
  go_upto_if 4 with ((with_reducible refine xaJ (N := 2) rfl ?_); refine bxv 2 #[.bool false, .slice none 0 0, .int .i64 0] 172 ?_; intro g hg w1 hbox hb; have Bg := am hbox; have HBg := HB; replace HB := am (xaC HB.out hb); have HGg := am hg; have HLg := am (xaM hbox); clear hb hbox hg)
  have hgb : xaA (w.heap.size ≤ g) := ⟨Nat.le_of_eq HGg.out.symm⟩
  have cg_ := cz3 Bg
  go_wp2_with (go_at_call 134; go_loud ((with_reducible refine (HDG.out _).mono ?_); rintro x w2 ⟨A, c, rfl, hd, hb⟩; have HD := am hd; have hgl := xaM Bg.out; replace HB := am (xaC HB.out hb); replace Bg := am (xaD Bg.out hb); clear hb; clear cg_ hd; have cg_ := cz3 Bg))
  skip
  have B3 := put3 (.bool false) (.slice A (dg N).length c) (.int .i64 0) Bg.out
  have HB3 : Below w.heap.size w (((w2.setCell ⟨g, 0, none⟩ (.bool false)).setCell ⟨g, 1, none⟩ (.slice A (dg N).length c)).setCell ⟨g, 2, none⟩ (.int .i64 0)) := xaF (xaF (xaF HB.out hgb.out) hgb.out) hgb.out
  have hD3 := xkL (.bool false) (.slice A (dg N).length c) (.int .i64 0) HD.out hgl hgb.out
  generalize (((w2.setCell ⟨g, 0, none⟩ (.bool false)).setCell ⟨g, 1, none⟩ (.slice A (dg N).length c)).setCell ⟨g, 2, none⟩ (.int .i64 0)) = wz at *
  have d0 : wz.cell? ⟨g, 0, none⟩ = some (.bool false) := (xaB B3 0).trans rfl
  have d1 : wz.cell? ⟨g, 1, none⟩ = some (.slice A (dg N).length c) := (xaB B3 1).trans rfl
  have d2 : wz.cell? ⟨g, 2, none⟩ = some (.int .i64 0) := (xaB B3 2).trans rfl
  exact bodyPost_ret (v := .agg #[.bool false, .slice A (dg N).length c, .int .i64 0]) (by simp [results, Tryz.results109, go_sem, d0, d1, d2]) rfl ⟨A, c, rfl, hD3, HB3⟩
theorem over_in {p q : Nat} (h : p ≠ 0) (hp : p < 1099511627776) (hq : 0 < q ∧ q < 1048576) : ∃ (k : Nat) (n1 x1 : Int), n1 = -(k : Int) ∧ 70 + q.log2 - p.log2 = k ∧ IntKind.i64.wrap (70 - (bl p : Int)) = x1 ∧ IntKind.i64.wrap (x1 + (bl q : Int)) = (k : Int) ∧ (IntKind.i64.wrap (-(k : Int)) = n1 ∧ IntKind.i64.wrap n1 = n1 ∧ -100 ≤ n1 ∧ n1 ≤ 0) ∧ (0 : Int) < (k : Int) ∧ (dg p).length ≤ 2 ∧ (dg q).length ≤ 2 ∧ (dg (upN p q)).length ≤ 5 ∧ k ≤ 100 ∧ (dg (upN p q / q)).length ≤ 3 ∧ p * 2 ^ k = upN p q := by
 have hpl : p.log2 < 40 := (Nat.log2_lt h).2 hp
 have hql : q.log2 < 20 := (Nat.log2_lt (by omega)).2 hq.2
 have h1 := xlT h
 have h2 := xlT (n := q) (by omega)
 have h3 := (up_rng (q := q) h (by omega) (by omega)).2
 have h4 : upN p q < 4294967296 ^ 5 := by
  have h5 : p * 2 ^ (70 + q.log2 - p.log2) ≤ 1099511627776 * 2 ^ 90 := Nat.mul_le_mul (Nat.le_of_lt hp) (Nat.pow_le_pow_right (by decide) (by omega))
  unfold upN; exact Nat.lt_of_le_of_lt h5 (by decide)
 refine ⟨_, _, (70 - (bl p : Int)), rfl, rfl, ?_, ?_, ⟨?_, ?_, by omega, by omega⟩, by omega, dg_le (by omega), dg_le (by omega), dg_le h4, by omega, dg_le (by omega), rfl⟩
 all_goals (rw [i64_w]; unfold wrap64; omega)
def overV (s : Bool) (p q : Nat) : Nat := if p = 0 then 0 else nearV s (upN p q / q) (-((70 + q.log2 - p.log2 : Nat) : Int)) (decide (upN p q % q ≠ 0))
theorem over_c (s : Bool) (p q : Nat) (A1 A2 : Option Addr) (c1 c2 : Nat) (w : World) (hr1 : Kd.C (Kd.int .u64) w A1 (dg p).length (dg p)) (hr2 : Kd.C (Kd.int .u64) w A2 (dg q).length (dg q)) (hp : p < 1099511627776) (hq : 0 < q ∧ q < 1048576) :
  Calls Tryz.prog 108 #[numV s A1 (dg p).length c1 0, numV false A2 (dg q).length c2 0] w fun x w' => x = .returned (.int .u64 (overV s p q : Int)) ∧ Below w.heap.size w w' := by
 have HZ : xaA (∀ w, Calls Tryz.prog 129 #[(.agg #[.bool s, .slice A1 (dg p).length c1, .int .i64 0])] w fun x w' => x = .returned (.bool (decide ((dg p).length = 0))) ∧ Below w.heap.size w w') := ⟨fun w => zero_c s A1 (dg p).length c1 0 w⟩
 obtain ⟨zb, hzb⟩ : ∃ zb, decide ((dg p).length = 0) = zb := ⟨_, rfl⟩
 rw [hzb] at HZ
 have HZB := am hzb;have HR1 := am hr1;have HR2 := am hr2;have HP := am hp;have HQ := am hq
 unfold numV
 have HB : xaA (Below w.heap.size w w) := ⟨Below.refl _ _⟩
 clear hr1 hr2 hp hq hzb
 go_enter Tryz.func108, Tryz.ntmps108
 go_upto_region 1 with (first | ((with_reducible refine xaJ (N := 2) rfl ?_); refine bxv 2 #[.bool s, .slice A1 (dg p).length c1, .int .i64 0] 172 ?_; intro a hg w1 hbox hb; have Ba := am hbox; have HBa := HB; replace HB := am (xaC HB.out hb); have HGa := am hg; have HLa := am (xaM hbox); clear hb hbox hg) | ((with_reducible refine xaJ (N := 3) rfl ?_); refine bxv 3 #[.bool false, .slice A2 (dg q).length c2, .int .i64 0] 172 ?_; intro b hg w2 hbox hb; have Bb := am hbox; replace Ba := am (xaD Ba.out hb); have HBb := HB; replace HB := am (xaC HB.out hb); have HGb := am hg; have HLb := am (xaM hbox); clear hb hbox hg))
 obtain ⟨ca_0, ca_1, ca_2⟩ := ce3 Ba
 obtain ⟨cb_0, cb_1, cb_2⟩ := ce3 Bb
 go_upto_if 9 with (go_at_call 129; go_loud ((with_reducible refine (HZ.out _).mono ?_); rintro x w3 ⟨rfl, hb⟩; replace HB := am (xaC HB.out hb); replace Ba := am (xaD Ba.out hb); replace Bb := am (xaD Bb.out hb); clear hb))
 clear ca_0 ca_1 ca_2 cb_0 cb_1 cb_2
 cases zb with
 | true =>
  have h0 : p = 0 := (xiB p).1 (of_decide_eq_true HZB.out)
  have HV : xaA (overV s p q = 0) := ⟨by unfold overV; rw [if_pos h0]⟩
  clear h0
  go_wp2_with fail
  go_ret
  exact ⟨by rw [HV.out]; first | done | rfl, HB.out⟩
 | false =>
  have h0 : p ≠ 0 := fun h => of_decide_eq_false HZB.out ((xiB p).2 h)
  obtain ⟨ca_0, ca_1, ca_2⟩ := ce3 Ba
  obtain ⟨cb_0, cb_1, cb_2⟩ := ce3 Bb
  obtain ⟨k, n1, x1, hk, hk0, g1, g2, g3, g4, l1, l2, l3, l4, hD, hX⟩ := over_in h0 HP.out HQ.out
  have HL1 := am (len_q p A1 c1 w3 (Kd.xaQ HR1.out HB.out) (by omega))
  have HL2 := am (len_q q A2 c2 w3 (Kd.xaQ HR2.out HB.out) (by omega))
  have HSU : xaA (∀ w', Below w.heap.size w w' → Calls Tryz.prog 132 #[.slice A1 (dg p).length c1, .int .i64 (k : Int)] w' fun e w2 => ∃ A' c', e = .returned (.slice A' (dg (upN p q)).length c') ∧ DG w2 w'.heap.size A' c' (upN p q) ∧ Below w'.heap.size w' w2) := ⟨fun w' hb => by rw [← hX]; exact xhM p k A1 c1 w' (Kd.xaQ HR1.out hb) (by omega) (by omega)⟩
  have HDV : xaA (∀ w' A' c', Below w.heap.size w w' → Kd.C (Kd.int .u64) w' A' (dg (upN p q)).length (dg (upN p q)) → Calls Tryz.prog 131 #[.slice A' (dg (upN p q)).length c', .slice A2 (dg q).length c2] w' fun e w2 => ∃ A1 c1 A2 c2, e = .returned (.tuple #[.slice A1 (dg (upN p q / q)).length c1, .slice A2 (dg (upN p q % q)).length c2]) ∧ DG w2 w'.heap.size A1 c1 (upN p q / q) ∧ Below w'.heap.size w' w2) := ⟨fun w' A' c' hb hc => div_c (upN p q) q A' A2 c' c2 w' hc (Kd.xaQ HR2.out hb) (by omega) (by omega) HQ.out.1⟩
  have hmo : decide (0 < (dg (upN p q % q)).length) = decide (upN p q % q ≠ 0) := by
   refine decide_eq_decide.2 ?_
   have := xiB (upN p q % q)
   omega
  have HNM : xaA (∀ w' A' c', Kd.C (Kd.int .u64) w' A' (dg (upN p q / q)).length (dg (upN p q / q)) → Calls Tryz.prog 133 #[.agg #[.bool s, .slice A' (dg (upN p q / q)).length c', .int .i64 n1], .bool (decide (upN p q % q ≠ 0))] w' fun e w2 => e = .returned (.int .u64 (nearV s (upN p q / q) n1 (decide (upN p q % q ≠ 0)) : Int)) ∧ Below w'.heap.size w' w2) := ⟨fun w' A' c' hc => xiY s _ n1 _ A' c' w' hc (by omega) (by omega)⟩
  have HV : xaA (overV s p q = nearV s (upN p q / q) n1 (decide (upN p q % q ≠ 0))) := ⟨by unfold overV; rw [if_neg h0, hk0, ← hk]⟩
  clear h0 hk hk0 l1 l2 l3 l4 hD hX
  generalize nearV s (upN p q / q) n1 (decide (upN p q % q ≠ 0)) = nv at *
  generalize decide (upN p q % q ≠ 0) = mo at *
  generalize (dg (upN p q % q)).length = lm at *
  generalize upN p q / q = dv at *
  generalize upN p q = un at *
  generalize bl p = bp at *
  generalize bl q = bq at *
  have hk1 : decide ((0 : Int) < (k : Int)) = true := decide_eq_true g4
  go_wp2_with fail
  go_quiet (first | (go_at_call 130; with_reducible exact Calls.quiet_of_same (HL1.out _)) | (go_at_call 130; with_reducible exact Calls.quiet_of_same (HL2.out _)))
  skip
  clear ca_0 ca_1 ca_2 cb_0 cb_1 cb_2 g1 g2
  replace HB := am (xaG HB.out nq)
  replace Ba := am (xaZ Ba.out nq)
  replace Bb := am (xaZ Bb.out nq)
  generalize w3.drewN nq = w4 at *
  obtain ⟨ca_0, ca_1, ca_2⟩ := ce3 Ba
  obtain ⟨cb_0, cb_1, cb_2⟩ := ce3 Bb
  go_wp2_with fail
  skip
  refine xcA ?_
  refine xbL (n := 12) (S := fun w' => w'.cell? ⟨a, 0, none⟩ = some (.bool s) ∧ w'.cell? ⟨a, 1, none⟩ = some (.slice A1 (dg p).length c1) ∧ w'.cell? ⟨a, 2, none⟩ = some (.int .i64 0) ∧ w'.cell? ⟨b, 0, none⟩ = some (.bool false) ∧ w'.cell? ⟨b, 1, none⟩ = some (.slice A2 (dg q).length c2) ∧ w'.cell? ⟨b, 2, none⟩ = some (.int .i64 0)) (ds := []) #[false, false, false, false, false, false, false, false, false, false, false, false] (by kernel_rfl) rfl rfl ⟨ca_0, ca_1, ca_2, cb_0, cb_1, cb_2⟩ (fun hHeld => ?_)
  replace HB := am (xaK HB.out)
  replace Ba := am (xaP Ba.out)
  replace Bb := am (xaP Bb.out)
  clear ca_0 ca_1 ca_2 cb_0 cb_1 cb_2
  generalize w4.drew = w5 at *
  refine rP 0 ?_
  refine rT 1 ?_
  refine rP 2 ?_
  refine rP 4 ?_
  refine rT 5 ?_
  refine rO 3 (fun K hK => ?_)
  refine goes_ Tryz.func132 (by kernel_rfl) rfl #[.slice A1 (dg p).length c1, .int .i64 (k : Int)] (by rfl) rfl rfl (by (try simp only [List.map_toArray, List.map_cons, List.map_nil]); first | done | rfl) ?_
  with_reducible refine (HSU.out _ HB.out).mono ?_
  rintro x w6 ⟨A3, c3, rfl, hd, hb⟩
  refine ⟨_, rfl, ?_⟩
  have HD := am hd
  replace HB := am (xaC HB.out hb)
  replace Ba := am (xaD Ba.out hb)
  replace Bb := am (xaD Bb.out hb)
  clear hd hb hHeld
  refine hK.out _ _ ⟨(xaB Ba.out 0).trans rfl, (xaB Ba.out 1).trans rfl, (xaB Ba.out 2).trans rfl, (xaB Bb.out 0).trans rfl, (xaB Bb.out 1).trans rfl, (xaB Bb.out 2).trans rfl⟩ (fun hHeld => ?_)
  clear hK K
  refine rN ?_
  clear hHeld
  have hHeld : w6.cell? ⟨a, 0, none⟩ = some (.bool s) ∧ w6.cell? ⟨a, 1, none⟩ = some (.slice A1 (dg p).length c1) ∧ w6.cell? ⟨a, 2, none⟩ = some (.int .i64 0) ∧ w6.cell? ⟨b, 0, none⟩ = some (.bool false) ∧ w6.cell? ⟨b, 1, none⟩ = some (.slice A2 (dg q).length c2) ∧ w6.cell? ⟨b, 2, none⟩ = some (.int .i64 0) := ⟨(xaB Ba.out 0).trans rfl, (xaB Ba.out 1).trans rfl, (xaB Ba.out 2).trans rfl, (xaB Bb.out 0).trans rfl, (xaB Bb.out 1).trans rfl, (xaB Bb.out 2).trans rfl⟩
  refine rO 6 (fun K hK => ?_)
  refine goes_ Tryz.func131 (by kernel_rfl) rfl #[.slice A3 (dg un).length c3, .slice A2 (dg q).length c2] (by rfl) rfl rfl (by (try simp only [List.map_toArray, List.map_cons, List.map_nil]); first | done | rfl) ?_
  with_reducible refine (HDV.out _ _ _ HB.out HD.out.C).mono ?_
  rintro x w7 ⟨A4, c4, A5, c5, rfl, hd, hb⟩
  refine ⟨_, rfl, ?_⟩
  have HD := am hd
  replace HB := am (xaC HB.out hb)
  replace Ba := am (xaD Ba.out hb)
  replace Bb := am (xaD Bb.out hb)
  clear hd hb hHeld
  refine hK.out _ _ ⟨(xaB Ba.out 0).trans rfl, (xaB Ba.out 1).trans rfl, (xaB Ba.out 2).trans rfl, (xaB Bb.out 0).trans rfl, (xaB Bb.out 1).trans rfl, (xaB Bb.out 2).trans rfl⟩ (fun hHeld => ?_)
  clear hK K
  refine rN ?_
  skip
  refine rP 7 ?_
  refine rP 8 ?_
  refine rP 9 ?_
  refine rP 10 ?_
  refine rP 11 ?_
  clear hHeld
  refine rD ?_
  skip
  obtain ⟨ca_0, ca_1, ca_2⟩ := ce3 Ba
  obtain ⟨cb_0, cb_1, cb_2⟩ := ce3 Bb
  go_wp2_with (go_at_call 133; go_loud ((with_reducible refine (HNM.out _ _ _ HD.out.C).mono ?_); rintro x w8 ⟨rfl, hb⟩; replace HB := am (xaC HB.out hb); clear hb))
  go_ret
  exact ⟨by rw [HV.out]; first | done | rfl, HB.out⟩
theorem put2 {w : World} {b : Nat} {t : TypeId} {z0 z1 : Value} (x0 x1 : Value) (h : w.heap[b]? = some (.cells #[z0, z1] t (0, 0))) : ((w.setCell ⟨b, 0, none⟩ x0).setCell ⟨b, 1, none⟩ x1).heap[b]? = some (.cells #[x0, x1] t (0, 0)) := by
  have q0 : (w.setCell ⟨b, 0, none⟩ x0).heap[b]? = some (.cells #[x0, z1] t (0, 0)) := xaN h 0 x0 rfl
  exact xaN q0 1 x1 rfl
theorem put2_o {w : World} {b g : Nat} {o : Option Obj} (x0 x1 : Value) (h : w.heap[g]? = o) (hne : g ≠ b) : ((w.setCell ⟨b, 0, none⟩ x0).setCell ⟨b, 1, none⟩ x1).heap[g]? = o := by
  rw [Below.heap_setCell _ ⟨b, 1, none⟩ x1 g hne, Below.heap_setCell _ ⟨b, 0, none⟩ x0 g hne, h]
def partV (p q : Int) : Value := .agg #[.int .i64 p, .int .i64 q]
theorem up_c (kind a b : Int) (w : World) (hk : 1 ≤ kind ∧ kind ≤ 5) (ha : 0 ≤ a) (hab : a ≤ b) (hb : b ≤ 109572) : Calls Tryz.prog 107 #[.int .i64 kind, .agg #[.int .i64 0, .slice none 0 0], .int .i64 a, .int .i64 b] w fun e w' => e = .returned (.tuple #[partV (N.up kind a b).1 (N.up kind a b).2.1, .int .i64 0]) ∧ Below w.heap.size w w' := by
 have HB : xaA (Below w.heap.size w w) := ⟨Below.refl _ _⟩
 have HAC := am (fun w => actual_c a b w ha hab hb)
 have HTH := am (fun w => thirty_c kind a b w ⟨ha, by omega⟩ ⟨by omega, hb⟩)
 have t1 : decide (kind < 1) = false := decide_eq_false (by omega)
 have t2 : decide (6 < kind) = false := decide_eq_false (by omega)
 have t3 : (kind == 6) = false := beq_eq_false_iff_ne.2 (by omega)
 have t4 : decide (a < 0) = false := decide_eq_false (by omega)
 have t5 : decide (109572 < a) = false := decide_eq_false (by omega)
 have t6 : decide (b < 0) = false := decide_eq_false (by omega)
 have t7 : decide (109572 < b) = false := decide_eq_false (by omega)
 have t8 : decide (b < a) = false := decide_eq_false (by omega)
 have hd : IntKind.i64.wrap (b - a) = b - a := by rw [i64_w]; unfold wrap64; omega
 unfold partV
 by_cases h1 : kind = 1
 ·
  have e : N.up kind a b = (b - a, 360, 0) := by unfold N.up; rw [if_pos h1]
  rw [e]
  subst h1;clear t1 t2 t3 HAC HTH hk ha hab hb e
  go_enter Tryz.func107, Tryz.ntmps107
  go_upto_region 1 with (first | ((with_reducible refine xaJ (N := 5) rfl ?_); refine bxv 5 #[.int .i64 0, .slice none 0 0] 115 ?_; intro c hg w1 hbox hb; have Bc := am hbox; have HBc := HB; replace HB := am (xaC HB.out hb); have HGc := am hg; have HLc := am (xaM hbox); clear hb hbox hg) | ((with_reducible refine xaJ (N := 8) rfl ?_); refine bxv 8 #[.int .i64 0, .int .i64 0] 166 ?_; intro g hg w2 hbox hb; have Bg := am hbox; replace Bc := am (xaD Bc.out hb); have HBg := HB; replace HB := am (xaC HB.out hb); have HGg := am hg; have HLg := am (xaM hbox); clear hb hbox hg; have hgb : xaA (w.heap.size ≤ g) := ⟨by have h1 := HGg.out; have h2 := HBg.out.size; omega⟩; have cg_ := cz2 Bg))
  go_wp2_with fail
  skip
  clear cg_
  have B3 := put2 (.int .i64 (b - a)) (.int .i64 360) Bg.out
  have HB3 : Below w.heap.size w ((w2.setCell ⟨g, 0, none⟩ (.int .i64 (b - a))).setCell ⟨g, 1, none⟩ (.int .i64 360)) := xaF (xaF HB.out hgb.out) hgb.out
  generalize ((w2.setCell ⟨g, 0, none⟩ (.int .i64 (b - a))).setCell ⟨g, 1, none⟩ (.int .i64 360)) = wz at *
  have d0 : wz.cell? ⟨g, 0, none⟩ = some (.int .i64 (b - a)) := (xaB B3 0).trans rfl
  have d1 : wz.cell? ⟨g, 1, none⟩ = some (.int .i64 360) := (xaB B3 1).trans rfl
  exact bodyPost_ret (v := .tuple #[.agg #[.int .i64 (b - a), .int .i64 360], .int .i64 0]) (by simp [results, Tryz.results107, go_sem, d0, d1]) rfl ⟨rfl, HB3⟩
 ·
  have t9 : (kind == 1) = false := beq_eq_false_iff_ne.2 h1
  by_cases h2 : kind = 2
  ·
   have e : N.up kind a b = (b - a, 365, 0) := by unfold N.up; rw [if_neg h1, if_pos h2]
   rw [e]
   subst h2;clear t1 t2 t3 t9 h1 HAC HTH hk ha hab hb e
   go_enter Tryz.func107, Tryz.ntmps107
   go_upto_region 1 with (first | ((with_reducible refine xaJ (N := 5) rfl ?_); refine bxv 5 #[.int .i64 0, .slice none 0 0] 115 ?_; intro c hg w1 hbox hb; have Bc := am hbox; have HBc := HB; replace HB := am (xaC HB.out hb); have HGc := am hg; have HLc := am (xaM hbox); clear hb hbox hg) | ((with_reducible refine xaJ (N := 8) rfl ?_); refine bxv 8 #[.int .i64 0, .int .i64 0] 166 ?_; intro g hg w2 hbox hb; have Bg := am hbox; replace Bc := am (xaD Bc.out hb); have HBg := HB; replace HB := am (xaC HB.out hb); have HGg := am hg; have HLg := am (xaM hbox); clear hb hbox hg; have hgb : xaA (w.heap.size ≤ g) := ⟨by have h1 := HGg.out; have h2 := HBg.out.size; omega⟩; have cg_ := cz2 Bg))
   go_wp2_with fail
   clear cg_
   have B3 := put2 (.int .i64 (b - a)) (.int .i64 365) Bg.out
   have HB3 : Below w.heap.size w ((w2.setCell ⟨g, 0, none⟩ (.int .i64 (b - a))).setCell ⟨g, 1, none⟩ (.int .i64 365)) := xaF (xaF HB.out hgb.out) hgb.out
   generalize ((w2.setCell ⟨g, 0, none⟩ (.int .i64 (b - a))).setCell ⟨g, 1, none⟩ (.int .i64 365)) = wz at *
   have d0 : wz.cell? ⟨g, 0, none⟩ = some (.int .i64 (b - a)) := (xaB B3 0).trans rfl
   have d1 : wz.cell? ⟨g, 1, none⟩ = some (.int .i64 365) := (xaB B3 1).trans rfl
   exact bodyPost_ret (v := .tuple #[.agg #[.int .i64 (b - a), .int .i64 365], .int .i64 0]) (by simp [results, Tryz.results107, go_sem, d0, d1]) rfl ⟨rfl, HB3⟩
  ·
   have t10 : (kind == 2) = false := beq_eq_false_iff_ne.2 h2
   by_cases h3 : kind = 3
   ·
    have e : N.up kind a b = (N.act b - N.act a, 133590, 0) := by unfold N.up; rw [if_neg h1, if_neg h2, if_pos h3]
    rw [e]
    generalize N.act b - N.act a = ac at *
    subst h3;clear t1 t2 t3 t9 t10 h1 h2 HTH hk ha hab hb e hd
    go_enter Tryz.func107, Tryz.ntmps107
    go_upto_region 1 with (first | ((with_reducible refine xaJ (N := 5) rfl ?_); refine bxv 5 #[.int .i64 0, .slice none 0 0] 115 ?_; intro c hg w1 hbox hb; have Bc := am hbox; have HBc := HB; replace HB := am (xaC HB.out hb); have HGc := am hg; have HLc := am (xaM hbox); clear hb hbox hg) | ((with_reducible refine xaJ (N := 8) rfl ?_); refine bxv 8 #[.int .i64 0, .int .i64 0] 166 ?_; intro g hg w2 hbox hb; have Bg := am hbox; replace Bc := am (xaD Bc.out hb); have HBg := HB; replace HB := am (xaC HB.out hb); have HGg := am hg; have HLg := am (xaM hbox); clear hb hbox hg; have hgb : xaA (w.heap.size ≤ g) := ⟨by have h1 := HGg.out; have h2 := HBg.out.size; omega⟩; have cg_ := cz2 Bg))
    go_wp2_with (go_at_call 126; go_loud ((with_reducible refine (HAC.out _).mono ?_); rintro x w3 ⟨rfl, hb⟩; replace HB := am (xaC HB.out hb); replace Bg := am (xaD Bg.out hb); clear hb; clear cg_; have cg_ := cz2 Bg))
    clear cg_
    have B3 := put2 (.int .i64 ac) (.int .i64 133590) Bg.out
    have HB3 : Below w.heap.size w ((w3.setCell ⟨g, 0, none⟩ (.int .i64 ac)).setCell ⟨g, 1, none⟩ (.int .i64 133590)) := xaF (xaF HB.out hgb.out) hgb.out
    generalize ((w3.setCell ⟨g, 0, none⟩ (.int .i64 ac)).setCell ⟨g, 1, none⟩ (.int .i64 133590)) = wz at *
    have d0 : wz.cell? ⟨g, 0, none⟩ = some (.int .i64 ac) := (xaB B3 0).trans rfl
    have d1 : wz.cell? ⟨g, 1, none⟩ = some (.int .i64 133590) := (xaB B3 1).trans rfl
    exact bodyPost_ret (v := .tuple #[.agg #[.int .i64 ac, .int .i64 133590], .int .i64 0]) (by simp [results, Tryz.results107, go_sem, d0, d1]) rfl ⟨rfl, HB3⟩
   ·
    have t11 : (kind == 3) = false := beq_eq_false_iff_ne.2 h3
    have e : N.up kind a b = (N.thirty (decide (kind = 5)) a b, 360, 0) := by
     unfold N.up
     rw [if_neg h1, if_neg h2, if_neg h3]
     by_cases h4 : kind = 4
     ·
      rw [if_pos h4, decide_eq_false (by omega)]
     ·
      rw [if_neg h4, decide_eq_true (by omega)]
    rw [e]
    generalize N.thirty (decide (kind = 5)) a b = th at *
    clear h1 h2 h3 HAC hk ha hab hb e hd
    go_enter Tryz.func107, Tryz.ntmps107
    go_upto_region 1 with (first | ((with_reducible refine xaJ (N := 5) rfl ?_); refine bxv 5 #[.int .i64 0, .slice none 0 0] 115 ?_; intro c hg w1 hbox hb; have Bc := am hbox; have HBc := HB; replace HB := am (xaC HB.out hb); have HGc := am hg; have HLc := am (xaM hbox); clear hb hbox hg) | ((with_reducible refine xaJ (N := 8) rfl ?_); refine bxv 8 #[.int .i64 0, .int .i64 0] 166 ?_; intro g hg w2 hbox hb; have Bg := am hbox; replace Bc := am (xaD Bc.out hb); have HBg := HB; replace HB := am (xaC HB.out hb); have HGg := am hg; have HLg := am (xaM hbox); clear hb hbox hg; have hgb : xaA (w.heap.size ≤ g) := ⟨by have h1 := HGg.out; have h2 := HBg.out.size; omega⟩; have cg_ := cz2 Bg))
    go_wp2_with (go_at_call 128; go_loud ((with_reducible refine (HTH.out _).mono ?_); rintro x w3 ⟨rfl, hb⟩; replace HB := am (xaC HB.out hb); replace Bg := am (xaD Bg.out hb); clear hb; clear cg_; have cg_ := cz2 Bg))
    clear cg_
    have B3 := put2 (.int .i64 th) (.int .i64 360) Bg.out
    have HB3 : Below w.heap.size w ((w3.setCell ⟨g, 0, none⟩ (.int .i64 th)).setCell ⟨g, 1, none⟩ (.int .i64 360)) := xaF (xaF HB.out hgb.out) hgb.out
    generalize ((w3.setCell ⟨g, 0, none⟩ (.int .i64 th)).setCell ⟨g, 1, none⟩ (.int .i64 360)) = wz at *
    have d0 : wz.cell? ⟨g, 0, none⟩ = some (.int .i64 th) := (xaB B3 0).trans rfl
    have d1 : wz.cell? ⟨g, 1, none⟩ = some (.int .i64 360) := (xaB B3 1).trans rfl
    exact bodyPost_ret (v := .tuple #[.agg #[.int .i64 th, .int .i64 360], .int .i64 0]) (by simp [results, Tryz.results107, go_sem, d0, d1]) rfl ⟨rfl, HB3⟩
theorem frac_c (kind a b : Int) (w : World) (hk : 1 ≤ kind ∧ kind ≤ 5) (ha : 0 ≤ a ∧ a ≤ 109572) (hb : 0 ≤ b ∧ b ≤ 109572) : Calls Tryz.prog 107 #[.int .i64 kind, .agg #[.int .i64 0, .slice none 0 0], .int .i64 a, .int .i64 b] w fun e w' => e = .returned (.tuple #[partV (N.frac kind a b).1 (N.frac kind a b).2.1, .int .i64 0]) ∧ Below w.heap.size w w' := by
 by_cases hlt : b < a
 ·
  have e : N.frac kind a b = (wrap64 (-(N.up kind b a).1), (N.up kind b a).2.1, (N.up kind b a).2.2) := by unfold N.frac; rw [if_neg (fun h => h ⟨ha, hb⟩), if_pos hlt]
  have HU : xaA (∀ w, Calls Tryz.prog 107 #[.int .i64 kind, .agg #[.int .i64 0, .slice none 0 0], .int .i64 b, .int .i64 a] w fun e w' => e = .returned (.tuple #[.agg #[.int .i64 (N.up kind b a).1, .int .i64 (N.up kind b a).2.1], .int .i64 0]) ∧ Below w.heap.size w w') := ⟨fun w => up_c kind b a w hk hb.1 (by omega) ha.2⟩
  rw [e]
  have HB : xaA (Below w.heap.size w w) := ⟨Below.refl _ _⟩
  have t1 : decide (kind < 1) = false := decide_eq_false (by omega)
  have t2 : decide (6 < kind) = false := decide_eq_false (by omega)
  have t3 : (kind == 6) = false := beq_eq_false_iff_ne.2 (by omega)
  have t4 : decide (a < 0) = false := decide_eq_false (by omega)
  have t5 : decide (109572 < a) = false := decide_eq_false (by omega)
  have t6 : decide (b < 0) = false := decide_eq_false (by omega)
  have t7 : decide (109572 < b) = false := decide_eq_false (by omega)
  have t8 : decide (b < a) = true := decide_eq_true hlt
  unfold partV
  generalize (N.up kind b a).1 = P at *
  generalize (N.up kind b a).2.1 = R at *
  clear e hlt hk ha hb
  go_enter Tryz.func107, Tryz.ntmps107
  go_upto_region 1 with (first | ((with_reducible refine xaJ (N := 5) rfl ?_); refine bxv 5 #[.int .i64 0, .slice none 0 0] 115 ?_; intro c hg w1 hbox hb; have Bc := am hbox; have HBc := HB; replace HB := am (xaC HB.out hb); have HGc := am hg; have HLc := am (xaM hbox); clear hb hbox hg) | ((with_reducible refine xaJ (N := 8) rfl ?_); refine bxv 8 #[.int .i64 0, .int .i64 0] 166 ?_; intro g hg w2 hbox hb; have Bg := am hbox; replace Bc := am (xaD Bc.out hb); have HBg := HB; replace HB := am (xaC HB.out hb); have HGg := am hg; have HLg := am (xaM hbox); clear hb hbox hg; have hgb : xaA (w.heap.size ≤ g) := ⟨by have h1 := HGg.out; have h2 := HBg.out.size; omega⟩; have cg_ := cz2 Bg))
  have cc_ := ce2 Bc
  go_upto_region 11 with (first | (go_at_call 107; go_loud ((with_reducible refine (HU.out _).mono ?_); rintro x w3 ⟨rfl, hb⟩; have hs3 := am hb.size; replace HB := am (xaC HB.out hb); replace Bg := am (xaD Bg.out hb); clear hb; clear cg_)) | ((with_reducible refine xaJ (N := 12) rfl ?_); refine bxv 12 #[.int .i64 0, .int .i64 0] 166 ?_; intro r hg w4 hbox hb; have Br := am hbox; replace Bg := am (xaD Bg.out hb); have HBr := HB; replace HB := am (xaC HB.out hb); have HGr := am hg; have HLr := am (xaM hbox); clear hb hbox hg; have hgr : g ≠ r := (by have h1 := HGr.out; have h2 := HLg.out; have h3 := hs3.out; omega); have hrb : xaA (w.heap.size ≤ r) := ⟨by have h1 := HGr.out; have h2 := HBr.out.size; omega⟩; have cr_ := cz2 Br))
  clear cr_
  replace Bg := am (put2_o (.int .i64 P) (.int .i64 R) Bg.out hgr)
  have B3 := am (put2 (.int .i64 P) (.int .i64 R) Br.out)
  have HB3 : xaA (Below w.heap.size w ((w4.setCell ⟨r, 0, none⟩ (.int .i64 P)).setCell ⟨r, 1, none⟩ (.int .i64 R))) := ⟨xaF (xaF HB.out hrb.out) hrb.out⟩
  clear Br HB
  generalize ((w4.setCell ⟨r, 0, none⟩ (.int .i64 P)).setCell ⟨r, 1, none⟩ (.int .i64 R)) = w5 at *
  have Br := B3;have HB := HB3;clear B3 HB3;have cg_ := cz2 Bg;have cr_ := ce2 Br
  go_wp2_with fail
  clear cg_ cr_
  skip
  have B3 := put2 (.int .i64 (wrap64 (-P))) (.int .i64 R) Bg.out
  have HB3 : Below w.heap.size w ((w5.setCell ⟨g, 0, none⟩ (.int .i64 (wrap64 (-P)))).setCell ⟨g, 1, none⟩ (.int .i64 R)) := xaF (xaF HB.out hgb.out) hgb.out
  generalize ((w5.setCell ⟨g, 0, none⟩ (.int .i64 (wrap64 (-P)))).setCell ⟨g, 1, none⟩ (.int .i64 R)) = wz at *
  have d0 : wz.cell? ⟨g, 0, none⟩ = some (.int .i64 (wrap64 (-P))) := (xaB B3 0).trans rfl
  have d1 : wz.cell? ⟨g, 1, none⟩ = some (.int .i64 R) := (xaB B3 1).trans rfl
  exact bodyPost_ret (v := .tuple #[.agg #[.int .i64 (wrap64 (-P)), .int .i64 R], .int .i64 0]) (by simp [results, Tryz.results107, go_sem, d0, d1]) rfl ⟨rfl, HB3⟩
 ·
  have e : N.frac kind a b = N.up kind a b := by unfold N.frac; rw [if_neg (fun h => h ⟨ha, hb⟩), if_neg hlt]
  rw [e]
  exact up_c kind a b w hk ha.1 (by omega) hb.2
def yearV (kind a b : Int) : Nat := overV (decide ((N.frac kind a b).1 < 0)) (N.frac kind a b).1.natAbs (N.frac kind a b).2.1.natAbs
theorem xkJ (kind a b : Int) (hk : 1 ≤ kind ∧ kind ≤ 5) (ha : 0 ≤ a ∧ a ≤ 109572) (hb : 0 ≤ b ∧ b ≤ 109572) : (-1000000000 < (N.frac kind a b).1 ∧ (N.frac kind a b).1 < 1000000000) ∧ (0 < (N.frac kind a b).2.1 ∧ (N.frac kind a b).2.1 < 200000) := by
 have hup : ∀ x y, (0 ≤ x ∧ x ≤ 109572) → (0 ≤ y ∧ y ≤ 109572) → (-1000000000 < (N.up kind x y).1 ∧ (N.up kind x y).1 < 1000000000) := fun x y hx hy => by
  have l1 := N.xfF hx;have l2 := N.xfF hy
  have cx := (M.xfS x hx.1 hx.2).1
  have cy := (M.xfS y hy.1 hy.2).1
  have lx := M.xdE (M.civY x) (M.civM x)
  have ly := M.xdE (M.civY y) (M.civM y)
  unfold M.xdQ at cx cy
  unfold N.up
  repeat' split
  all_goals simp only
  ·
   omega
  ·
   omega
  ·
   unfold N.act; omega
  all_goals
   unfold N.thirty mn
   repeat' split
   all_goals (rw [L.w64 (x := M.civY y - M.civY x) (by omega) (by omega), L.w64 (x := M.civM y - M.civM x) (by omega) (by omega), L.w64 (x := 360 * _) (by omega) (by omega), L.w64 (x := 30 * _) (by omega) (by omega), L.w64 (x := _ * _ + _ * _) (by omega) (by omega), L.w64 (x := _ * _ + _ * _ + _) (by omega) (by omega), L.w64 (by omega) (by omega)]; omega)
 have hd : ∀ x y, (0 < (N.up kind x y).2.1 ∧ (N.up kind x y).2.1 < 200000) := fun x y => by
  rcases (up_den kind x y).1 with e | e | e <;> rw [e] <;> decide
 unfold N.frac
 rw [if_neg (fun h => h ⟨ha, hb⟩)]
 split
 ·
  have := hup b a hb ha
  refine ⟨?_, hd b a⟩
  simp only
  unfold wrap64; omega
 ·
  exact ⟨hup a b ha hb, hd a b⟩
theorem docYear_c (kind a b : Int) (w : World) (hk : 1 ≤ kind ∧ kind ≤ 5) (ha : 0 ≤ a ∧ a ≤ 109572) (hb : 0 ≤ b ∧ b ≤ 109572) : Calls Tryz.prog 83 #[.int .i64 kind, .agg #[.int .i64 0, .slice none 0 0], .int .i64 a, .int .i64 b] w fun e w' => e = .returned (.tuple #[.int .u64 (yearV kind a b : Int), .int .i64 0]) ∧ Below w.heap.size w w' := by
 have HB : xaA (Below w.heap.size w w) := ⟨Below.refl _ _⟩
 have HU : xaA (∀ w, Calls Tryz.prog 107 #[.int .i64 kind, .agg #[.int .i64 0, .slice none 0 0], .int .i64 a, .int .i64 b] w fun e w' => e = .returned (.tuple #[.agg #[.int .i64 (N.frac kind a b).1, .int .i64 (N.frac kind a b).2.1], .int .i64 0]) ∧ Below w.heap.size w w') := ⟨fun w => frac_c kind a b w hk ha hb⟩
 obtain ⟨hp, hq⟩ := xkJ kind a b hk ha hb
 unfold yearV
 clear hk ha hb
 generalize (N.frac kind a b).1 = p at *
 generalize (N.frac kind a b).2.1 = q at *
 have HW1 := am (fun w => whole_c p w (by omega))
 have HW2 := am (fun w => whole_c q w (by omega))
 rw [show decide (q < 0) = false from decide_eq_false (by omega)] at HW2
 have HO : xaA (∀ w A1 c1 A2 c2, Kd.C (Kd.int .u64) w A1 (dg p.natAbs).length (dg p.natAbs) → Kd.C (Kd.int .u64) w A2 (dg q.natAbs).length (dg q.natAbs) → Calls Tryz.prog 108 #[numV (decide (p < 0)) A1 (dg p.natAbs).length c1 0, numV false A2 (dg q.natAbs).length c2 0] w fun x w' => x = .returned (.int .u64 (overV (decide (p < 0)) p.natAbs q.natAbs : Int)) ∧ Below w.heap.size w w') := ⟨fun w A1 c1 A2 c2 h1 h2 => over_c _ _ _ A1 A2 c1 c2 w h1 h2 (by omega) (by omega)⟩
 clear hp hq
 generalize overV (decide (p < 0)) p.natAbs q.natAbs = ov at *
 generalize decide (p < 0) = sb at *
 generalize p.natAbs = pn at *
 generalize q.natAbs = qn at *
 go_enter Tryz.func83, Tryz.ntmps83
 go_upto_region 1 with ((with_reducible refine xaJ (N := 5) rfl ?_); refine bxv 5 #[.int .i64 0, .slice none 0 0] 115 ?_; intro c hg w1 hbox hb; have Bc := am hbox; have HBc := HB; replace HB := am (xaC HB.out hb); have HGc := am hg; have HLc := am (xaM hbox); clear hb hbox hg)
 have cc_ := ce2 Bc
 go_upto_if 21 with (first | (go_at_call 107; go_loud ((with_reducible refine (HU.out _).mono ?_); rintro x w3 ⟨rfl, hb⟩; replace HB := am (xaC HB.out hb); clear hb)) | ((with_reducible refine xaJ (N := 10) rfl ?_); refine bxv 10 #[.int .i64 0, .int .i64 0] 166 ?_; intro r hg w4 hbox hb; have Br := am hbox; have HBr := HB; replace HB := am (xaC HB.out hb); have HGr := am hg; have HLr := am (xaM hbox); clear hb hbox hg; have hrb : xaA (w.heap.size ≤ r) := ⟨by have h1 := HGr.out; have h2 := HBr.out.size; omega⟩; have cr_ := cz2 Br))
 clear cc_ cr_
 have B3 := am (put2 (.int .i64 p) (.int .i64 q) Br.out)
 have HB3 : xaA (Below w.heap.size w ((w4.setCell ⟨r, 0, none⟩ (.int .i64 p)).setCell ⟨r, 1, none⟩ (.int .i64 q))) := ⟨xaF (xaF HB.out hrb.out) hrb.out⟩
 clear Br HB
 generalize ((w4.setCell ⟨r, 0, none⟩ (.int .i64 p)).setCell ⟨r, 1, none⟩ (.int .i64 q)) = w5 at *
 have Br := B3;have HB := HB3;clear B3 HB3;have cr_ := ce2 Br
 go_wp2_with fail
 skip
 refine xbL (n := 9) (S := fun w' => w'.cell? ⟨r, 0, none⟩ = some (.int .i64 p) ∧ w'.cell? ⟨r, 1, none⟩ = some (.int .i64 q)) (ds := []) #[false, false, false, false, false, false, false, false, false] (by kernel_rfl) rfl rfl cr_ (fun hHeld => ?_)
 replace HB := am (xaK HB.out)
 replace Br := am (xaP Br.out)
 clear cr_
 generalize w5.drew = w6 at *
 refine rP 0 ?_
 refine rT 1 ?_
 refine rP 3 ?_
 refine rT 4 ?_
 refine rO 2 (fun K hK => ?_)
 refine goes_ Tryz.func109 (by kernel_rfl) rfl #[.int .i64 p] (by rfl) rfl rfl (by (try simp only [List.map_toArray, List.map_cons, List.map_nil]); first | done | rfl) ?_
 with_reducible refine (HW1.out _).mono ?_
 rintro x w7 ⟨A1, c1, rfl, hd, hb⟩
 refine ⟨_, rfl, ?_⟩
 have HD1 := am hd.C
 replace HB := am (xaC HB.out hb)
 replace Br := am (xaD Br.out hb)
 clear hd hb hHeld
 refine hK.out _ _ ⟨(xaB Br.out 0).trans rfl, (xaB Br.out 1).trans rfl⟩ (fun hHeld => ?_)
 clear hK K
 refine rN ?_
 refine rO 5 (fun K hK => ?_)
 refine goes_ Tryz.func109 (by kernel_rfl) rfl #[.int .i64 q] (by rfl) rfl rfl (by (try simp only [List.map_toArray, List.map_cons, List.map_nil]); first | done | rfl) ?_
 with_reducible refine (HW2.out _).mono ?_
 rintro x w8 ⟨A2, c2, rfl, hd, hb⟩
 refine ⟨_, rfl, ?_⟩
 have HD2 := am hd.C
 replace HD1 := am (Kd.xaQ HD1.out hb)
 replace HB := am (xaC HB.out hb)
 replace Br := am (xaD Br.out hb)
 clear hd hb hHeld
 refine hK.out _ _ ⟨(xaB Br.out 0).trans rfl, (xaB Br.out 1).trans rfl⟩ (fun hHeld => ?_)
 clear hK K
 refine rN ?_
 refine rO 6 (fun K hK => ?_)
 refine goes_ Tryz.func108 (by kernel_rfl) rfl #[numV sb A1 (dg pn).length c1 0, numV false A2 (dg qn).length c2 0] (by rfl) rfl rfl (by (try simp only [List.map_toArray, List.map_cons, List.map_nil]); first | done | rfl) ?_
 with_reducible refine (HO.out _ _ _ _ _ HD1.out HD2.out).mono ?_
 rintro x w9 ⟨rfl, hb⟩
 refine ⟨_, rfl, ?_⟩
 replace HB := am (xaC HB.out hb)
 replace Br := am (xaD Br.out hb)
 clear hb hHeld
 refine hK.out _ _ ⟨(xaB Br.out 0).trans rfl, (xaB Br.out 1).trans rfl⟩ (fun hHeld => ?_)
 clear hK K
 refine rN ?_
 refine rP 7 ?_
 refine rP 8 ?_
 refine rD ?_
 skip
 go_wp2_with fail
 go_ret2
 exact ⟨rfl, HB.out⟩
theorem year_is (kind a b : Int) (hk : 1 ≤ kind ∧ kind ≤ 5) (ha : 0 ≤ a ∧ a ≤ 109572) (hb : 0 ≤ b ∧ b ≤ 109572) : yearV kind a b = yearF kind a b := by
 obtain ⟨hp, hq⟩ := xkJ kind a b hk ha hb
 unfold yearV yearF
 generalize (N.frac kind a b).1 = p at *
 generalize (N.frac kind a b).2.1 = q at *
 have hql : q.natAbs.log2 ≤ 40 := by have := (Nat.log2_lt (n := q.natAbs) (k := 41) (by omega)).2 (by omega); omega
 have eq : floatOfInt .f64 q = Ieee.double.nearest false q.natAbs 0 := by
  show Ieee.double.nearest (decide (q < 0)) q.natAbs 0 = _
  rw [decide_eq_false (by omega)]
 have ep : floatOfInt .f64 p = Ieee.double.nearest (decide (p < 0)) p.natAbs 0 := rfl
 unfold quoN overV
 rw [eq, ep]
 show _ = (Ieee.double.div _ _).getD 0
 by_cases h0 : p.natAbs = 0
 ·
  have hz : p = 0 := by omega
  subst hz
  rw [if_pos h0]
  have e1 : Ieee.double.nearest (decide ((0 : Int) < 0)) (0 : Int).natAbs 0 = 0 := by decide
  have e2 : Ieee.double.read 0 = .number false 0 (-1074) := by decide
  unfold Ieee.Format.div
  rw [e1, e2, xjW false (by omega) hql]
  unfold Ieee.Datum.quotient
  have hs := xjS (n := q.natAbs) (by omega) (by have := (Nat.log2_lt (n := q.natAbs) (k := 41) (by omega)).2 (by omega); omega)
  simp only
  rw [if_neg (show ¬ sig q.natAbs = 0 by omega)]
  simp [Ieee.Format.write, Ieee.Format.nearest, Ieee.Format.word]
 ·
  rw [if_neg h0]
  have hpl : p.natAbs.log2 ≤ 40 := by have := (Nat.log2_lt (n := p.natAbs) (k := 41) (by omega)).2 (by omega); omega
  rw [over_is (decide (p < 0)) h0 (by omega) hpl hql]; rfl
end Go.Proofs.YtkabcgmegljebaaGreatDoor.D
namespace Go.Proofs.YtkabcgmegljebaaGreatDoor.Q
open Go.RowKit Go.Proofs.YtkabcgmegljebaaGreatDoorW.PrintWords Go.Proofs.YtkabcgmegljebaaGreatDoorW.PrintLast Go.Proofs.YtkabcgmegljebaaGreatDoorW.PrintMore
attribute [local go_sem] xbV xbT xcM xcL xbN xbM xbU xbS
-- NOT PRINTED: function 6 (tenorlaw19_VmCuts)
-- NOT PRINTED: function 41 (api_Op_41)
-- NOT PRINTED: function 42 (code_laid)
-- NOT PRINTED: function 68 (code_idle)
-- NOT PRINTED: function 43 (code_trimmed)
-- NOT PRINTED: function 44 (code_pieces)
-- NOT PRINTED: function 26 (code_Trim)
-- NOT PRINTED: function 7 (tenorlaw19_VmTrims)
end Go.Proofs.YtkabcgmegljebaaGreatDoor.Q
namespace Go.Proofs.YtkabcgmegljebaaGreatDoor.H
open Go.RowKit Go.Proofs.YtkabcgmegljebaaGreatDoorW.PrintWords Go.Proofs.YtkabcgmegljebaaGreatDoorW.PrintLast Go.Proofs.YtkabcgmegljebaaGreatDoorW.PrintMore
open Go.Proofs.YtkabcgmegljebaaGreatDoor.Q
def ofF (f : S48) : S79 := ⟨f.f0, (f.f1 : Int), f.f2⟩
theorem rd79 {l : List S48} {i : Nat} (h : i < l.length) : xlC (l.map ofF) (i : Int) = ofF l[i] := by
  unfold xlC; simp [h]
theorem sameN_c (x : Int) (w : World) : Calls Tryz.prog 30 #[.int .u64 x, .int .u64 x] w fun e w' => e = .returned (.bool true) ∧ w' = w := by
 have h : (x == x) = true := beq_self_eq_true x
 go_enter Tryz.func30, Tryz.ntmps30
 go_wp2
 go_ret
 exact ⟨rfl, rfl⟩
theorem same_c (l : List S48) (A A2 : Option Addr) (c c2 : Nat) (w : World) (hr : Kd.C k48 w A l.length l) (hr2 : Kd.C k79 w A2 l.length (l.map ofF)) (hl : l.length ≤ 4096) :
  Calls Tryz.prog 13 #[.slice A l.length c, .slice A2 l.length c2] w fun e w' => e = .returned (.bool true) ∧ Below w.heap.size w w' := by
 have HR := am hr;have HR2 := am hr2;have HL := am hl
 have t0 : ((l.length : Int) != (l.length : Int)) = false := bne_self_eq_false _
 clear hr hr2 hl
 go_enter Tryz.func13, Tryz.ntmps13
 go_wp2_with fail
 go_loopg [5] (l.length) (fun kq v5 w' => ∃ i : Nat, i ≤ l.length ∧ kq + i = l.length ∧ v5 = .int .i64 i ∧ xaA (Below w.heap.size w w'))
 case atStart => exact ⟨0, by omega, by omega, rfl, ⟨by repeat (first | exact Below.refl _ _ | apply xaG | apply xaK)⟩⟩
 case round =>
  obtain ⟨i, hi, hk, rfl, HBW⟩ := hrel
  by_cases hlt : i < l.length
  ·
   obtain ⟨ad, e, h0, h1, h2⟩ := xhA (Kd.xaQ HR.out HBW.out) (i : Int) (by omega) (by omega)
   subst e
   obtain ⟨ad2, e, g0, g1, g2⟩ := xlV (Kd.xaQ HR2.out HBW.out) (i : Int) (by omega) (by omega)
   subst e
   rw [rd48 hlt] at h0 h1 h2
   rw [rd79 hlt] at g0 g1 g2
   rw [Int.toNat_natCast] at h0 h1 h2 g0 g1 g2
   generalize l[i] = x at h0 h1 h2 g0 g1 g2
   obtain ⟨x0, x1, x2⟩ := x
   simp only [ofF] at h0 h1 h2 g0 g1 g2
   have hmx : (i : Int) + 1 ≤ 9223372036854775807 := by have := HL.out; omega
   have u0 : (x0 != x0) = false := bne_self_eq_false _
   have u2 : (x2 != x2) = false := bne_self_eq_false _
   go_wp2_with fail
   go_quiet (first | (go_at_call 29; exact Calls.quiet_of_same (xdD _ _)) | (go_at_call 30; exact Calls.quiet_of_same (sameN_c _ _)))
   go_wp2
   go_roundg (gk - 1)
   case measure => omega
   case rel => exact ⟨i + 1, by omega, by omega, by go_num, ⟨xaG HBW.out _⟩⟩
  ·
   go_wp2_with fail
   go_ret
   exact ⟨rfl, HBW.out⟩
end Go.Proofs.YtkabcgmegljebaaGreatDoor.H
