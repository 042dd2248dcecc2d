/- Contracts and facts of functions of the program, joined in one text. -/
import Derived.Test.YtkabcgmegljebaaGreatDoorRGA
import Derived.Test.YtkabcgmegljebaaGreatDoorRGO
import Derived.Test.YtkabcgmegljebaaGreatDoorRGP
import Derived.Test.YtkabcgmegljebaaGreatDoorRGN
import Derived.Test.YtkabcgmegljebaaGreatDoorRGE
import Derived.Test.YtkabcgmegljebaaGreatDoorRGF
set_option maxHeartbeats 8000000
set_option maxRecDepth 100000
set_option linter.unusedVariables false
set_option linter.unusedSimpArgs false
namespace Go.Proofs.YtkabcgmegljebaaGreatDoor.D
open Go.RowKit Go.Proofs.YtkabcgmegljebaaGreatDoorW.PrintWords Go.Proofs.YtkabcgmegljebaaGreatDoorW.PrintLast Go.Proofs.YtkabcgmegljebaaGreatDoorW.PrintMore
open Go.Proofs.YtkabcgmegljebaaGreatDoor.Q Go.Proofs.YtkabcgmegljebaaGreatDoor.H
def lgV (kind cur : Int) (x y : Nat) (a b n : Int) : Value := (.agg #[.int .i64 1, .int .i64 kind, .int .i64 cur, .int .u64 (x : Int), .int .u64 (y : Int), .int .i64 a, .int .i64 b, .int .i64 n, .int .i64 3, .int .i64 1, .int .i64 0, .int .i64 0, .int .i64 0, .int .i64 0, .slice none 0 0])
theorem cur_c (x : Int) (w : World) : Calls Tryz.prog 103 #[.int .i64 x] w fun e w' => e = .returned (.bool (decide (1 ≤ x ∧ x ≤ 8))) ∧ w' = w := by
 obtain ⟨b1, h1⟩ : ∃ b1, decide (1 ≤ x) = b1 := ⟨_, rfl⟩
 obtain ⟨b2, h2⟩ : ∃ b2, decide (x ≤ 8) = b2 := ⟨_, rfl⟩
 have e : decide (1 ≤ x ∧ x ≤ 8) = (b1 && b2) := by rw [← h1, ← h2, Bool.decide_and]
 rw [e]
 clear e
 cases b1
 all_goals
  go_enter Tryz.func103, Tryz.ntmps103
  go_wp2_with fail
  go_ret
  exact ⟨rfl, rfl⟩
theorem over_num (s : Bool) (p q : Nat) (hp : p < 1099511627776) (hq : 0 < q ∧ q < 1048576) : numB (overV s p q) = true ∧ overV s p q < 18446744073709551616 := by
 by_cases h0 : p = 0
 ·
  unfold overV; rw [if_pos h0]; decide
 ·
  obtain ⟨u1, u2⟩ := up_rng (q := q) h0 (by omega) (by have := (Nat.log2_lt h0).2 (show p < 2 ^ 40 by omega); omega)
  have hpl : p.log2 < 40 := (Nat.log2_lt h0).2 hp
  have hql : q.log2 < 20 := (Nat.log2_lt (by omega)).2 hq.2
  unfold overV
  rw [if_neg h0]
  generalize upN p q / q = Q at *
  have hQ0 : Q ≠ 0 := by omega
  have hb := xlT hQ0
  have hbl : bl Q ≤ 71 := bl_le u2
  have hbl2 : 70 ≤ bl Q := by rw [hb, ← xgC (n := Q) (k := Q.log2) (Nat.log2_self_le hQ0) Nat.lt_log2_self]; have := (Nat.le_log2 hQ0).2 u1; omega
  generalize decide (upN p q % q ≠ 0) = m
  unfold nearV
  rw [if_neg hQ0, if_neg (by rw [Bool.or_eq_true, decide_eq_true_eq, decide_eq_true_eq]; omega)]
  have hls : lsbOf Q (-((70 + q.log2 - p.log2 : Nat) : Int)) = (bl Q : Int) - 123 - q.log2 + p.log2 := by unfold lsbOf; omega
  have hng : ¬ lsbOf Q (-((70 + q.log2 - p.log2 : Nat) : Int)) ≤ -((70 + q.log2 - p.log2 : Nat) : Int) := by rw [hls]; omega
  have hr := rndN_le (more := m) (xjU hng)
  have hr2 : rnd Q (-((70 + q.log2 - p.log2 : Nat) : Int)) m ≤ 1075 * 4503599627370496 := by
   unfold rnd
   rw [if_neg hng]
   rw [hls] at hr ⊢
   omega
  generalize rnd Q (-((70 + q.log2 - p.log2 : Nat) : Int)) m = r at hr2
  unfold mk numB
  rw [decide_eq_true_eq]
  cases s
  ·
   simp only [Bool.false_eq_true, if_false]; omega
  ·
   simp only [if_true]; omega
theorem year_num (kind a b : Int) (hk : 1 ≤ kind ∧ kind ≤ 5) (ha : 0 ≤ a ∧ a ≤ 109572) (hb : 0 ≤ b ∧ b ≤ 109572) : numB (yearF kind a b) = true ∧ yearF kind a b < 18446744073709551616 := by
 obtain ⟨hp, hq⟩ := xkJ kind a b hk ha hb
 rw [← year_is kind a b hk ha hb]
 exact over_num _ _ _ (by omega) (by omega)
theorem mulV_lt (u v : Nat) : mulV u v < 18446744073709551616 := by
 have h : sgV u v ≤ 9223372036854775808 := by unfold sgV; split <;> omega
 have h2 : ∀ r : Nat, r % 9223372036854775808 < 9223372036854775808 := fun r => Nat.mod_lt _ (by decide)
 unfold mulV
 split
 ·
  decide
 ·
  split
  ·
   omega
  ·
   have := h2 (nearV (tiS u v) (tiD u v) (tiE u v) false); omega
theorem mulV_inf {u v : Nat} (hu : numB u = true) (hv : numB v = true) (h : numB (mulV u v) = false) : mulV u v % 9223372036854775808 = 9218868437227405312 := by
 have g1 := of_decide_eq_true hu;have g2 := of_decide_eq_true hv
 have a1 : nanB u = false := decide_eq_false (by omega)
 have a2 : nanB v = false := decide_eq_false (by omega)
 have a3 : infB u = false := decide_eq_false (by omega)
 have a4 : infB v = false := decide_eq_false (by omega)
 have g3 := of_decide_eq_false h
 have hs : sgV u v = 9223372036854775808 ∨ sgV u v = 0 := by unfold sgV; split <;> omega
 have hmk : ∀ s r, mk s r % 9223372036854775808 ≤ 9218868437227405312 := fun s r => by unfold mk; have := Nat.min_le_right r 9218868437227405312; split <;> omega
 have hn : nearV (tiS u v) (tiD u v) (tiE u v) false % 9223372036854775808 ≤ 9218868437227405312 := by
  unfold nearV
  repeat' split
  all_goals first | exact hmk _ _ | decide
 have e : mulV u v = sgV u v + nearV (tiS u v) (tiD u v) (tiE u v) false % 9223372036854775808 := by unfold mulV; rw [a1, a2, a3, a4, if_neg (by simp), if_neg (by simp)]
 rw [e] at g3 ⊢
 omega
theorem xkC {u v : Nat} (hu : u < 18446744073709551616) (hv : v < 18446744073709551616) (nu : numB u = true) (nv : numB v = true) : floatBits .mul .f64 u v = some (mulV u v) ∧ mulN u v = mulV u v := by
  have h : floatBits .mul .f64 u v = some (mulV u v) := mul_is hu hv nu nv
  exact ⟨h, by unfold mulN; rw [h]; rfl⟩
theorem paid_is (kind cur : Int) (x y : Nat) (p : S145) (hx : x < 18446744073709551616) (hy : y < 18446744073709551616) (nx : numB x = true) (ny : numB y = true) (nv : numB (yearF kind p.f2 p.f3) = true ∧ yearF kind p.f2 p.f3 < 18446744073709551616) :
  paidF kind cur x y p = if numB (mulV x y) = true ∧ numB (mulV (mulV x y) (yearF kind p.f2 p.f3)) = true then (⟨p.f4, mulV (mulV x y) (yearF kind p.f2 p.f3), cur⟩, 0) else (⟨0, 0, 0⟩, 91) := by
 unfold paidF
 rw [(xkC hx hy nx ny).2]
 generalize yearF kind p.f2 p.f3 = yv at *
 cases hm : numB (mulV x y) with
 | true =>
  rw [(xkC (mulV_lt x y) nv.2 hm nv.1).1]
  simp only [true_and]
 | false =>
  rw [if_neg (by simp)]
  have hi := mulV_inf nx ny hm
  have hr : Ieee.double.read (mulV x y) = .infinity (mulV x y / 9223372036854775808 % 2 == 1) := by
   unfold Ieee.Format.read
   rw [c_sw, c_bin, c_inf]
   simp only
   rw [if_neg (by omega), if_neg (by omega), if_pos hi]
  obtain ⟨s, m, i, e2⟩ := xjV nv.1
  have hf : floatBits .mul .f64 (mulV x y) yv = ((Ieee.double.read (mulV x y)).product (Ieee.double.read yv)).map Ieee.double.write := rfl
  rw [hf, hr, e2]
  unfold Ieee.Datum.product
  simp only
  by_cases h0 : m = 0
  ·
   rw [if_pos h0]; rfl
  ·
   rw [if_neg h0]
   simp only [Option.map_some]
   have hnw : ∀ t, numB (Ieee.double.write (.infinity t)) = false := fun t => by
    unfold Ieee.Format.write
    simp only
    exact decide_eq_false (by rw [c_inf, xjQ _ _ (Nat.le_refl _)]; omega)
   rw [hnw]; rfl
theorem begun_c (kind cur : Int) (x y : Nat) (a b n : Int) (w : World) (hc : 1 ≤ cur ∧ cur ≤ 8) (hx : numB x = true) (hy : numB y = true) (h : SpO a b n) : Calls Tryz.prog 82 #[lgV kind cur x y a b n, .int .i64 1] w fun e w' => ∃ A c, e = .returned (.tuple #[.slice A (perA a b n).1.length c, .int .i64 (perA a b n).2]) ∧ Own k145 145 w w' A c (perA a b n).1 ∧ Below w.heap.size w w' := by
 have HP := am (fun w => periods_c a b n w h)
 have HC : xaA (∀ w, Calls Tryz.prog 103 #[.int .i64 cur] w fun e w' => e = .returned (.bool true) ∧ w' = w) := ⟨fun w => by have h := cur_c cur w; rwa [decide_eq_true hc] at h⟩
 have HN1 : xaA (∀ w, Calls Tryz.prog 85 #[.int .u64 (x : Int)] w fun e w' => e = .returned (.bool true) ∧ w' = w) := ⟨fun w => by have h := xdV x w; rwa [hx] at h⟩
 have HN2 : xaA (∀ w, Calls Tryz.prog 85 #[.int .u64 (y : Int)] w fun e w' => e = .returned (.bool true) ∧ w' = w) := ⟨fun w => by have h := xdV y w; rwa [hy] at h⟩
 unfold lgV
 unfold spV at HP
 generalize perA a b n = R at *
 obtain ⟨rl, re⟩ := R
 have HB : xaA (Below w.heap.size w w) := ⟨Below.refl _ _⟩
 clear hc hx hy h
 go_enter Tryz.func82, Tryz.ntmps82
 go_upto_region 1 with ((with_reducible refine xaJ (N := 2) rfl ?_); refine bxv 2 #[.int .i64 1, .int .i64 kind, .int .i64 cur, .int .u64 (x : Int), .int .u64 (y : Int), .int .i64 a, .int .i64 b, .int .i64 n, .int .i64 3, .int .i64 1, .int .i64 0, .int .i64 0, .int .i64 0, .int .i64 0, .slice none 0 0] 119 ?_; intro c hg w1 hbox hb; have Bc := am hbox; have HBc := HB; replace HB := am (xaC HB.out hb); have HGc := am hg; have HLc := am (xaM hbox); clear hb hbox hg)
 have cc_ := ce15 Bc
 go_wp2_with (first | (go_at_call 103; go_loud ((with_reducible refine (HC.out _).mono ?_); rintro z w2 ⟨rfl, hw_⟩; obtain rfl := hw_.symm)) | (go_at_call 85; go_loud (first | ((with_reducible refine (HN1.out _).mono ?_); rintro z w2 ⟨rfl, hw_⟩; obtain rfl := hw_.symm) | ((with_reducible refine (HN2.out _).mono ?_); rintro z w2 ⟨rfl, hw_⟩; obtain rfl := hw_.symm))) | (go_at_call 106; go_loud ((with_reducible refine (HP.out _).mono ?_); rintro z w4 ⟨A, cc, rfl, hs, hb⟩; have HS := am (hs.low HB.out.size); clear hs; replace HB := am (xaC HB.out hb); clear hb)))
 go_ret2
 exact ⟨A, cc, rfl, HS.out, HB.out⟩
instance : Flat k79 := ⟨fun {w w' x cs} h => by rw [k79_open h]; exact xhY w' x⟩
theorem n1t {i : Nat} (h : i ≤ 5000) : IntKind.i64.wrap ((i : Int) + 1) = ((i + 1 : Nat) : Int) := by rw [i64_w]; unfold wrap64; omega
theorem fixedD_c (kind cur : Int) (x y : Nat) (a b n : Int) (w : World) (hk : 1 ≤ kind ∧ kind ≤ 5) (hc : 1 ≤ cur ∧ cur ≤ 8) (hx : numB x = true) (hy : numB y = true) (hxl : x < 18446744073709551616) (hyl : y < 18446744073709551616) (h : SpO a b n) : Calls Tryz.prog 63 #[lgV kind cur x y a b n] w fun e w' => ∃ A c, e = .returned (.tuple #[.slice A (legF kind cur x y a b n).1.length c, .int .i64 (legF kind cur x y a b n).2]) ∧ Own k79 79 w w' A c ((legF kind cur x y a b n).1.map ofF) ∧ Below w.heap.size w w' := by
 have HBG := am (fun w => begun_c kind cur x y a b n w hc hx hy h)
 have hin := per_in a b n;have hlen := xmE a b n
 have hyr : ∀ p ∈ (perA a b n).1, (∀ w, Calls Tryz.prog 83 #[.int .i64 kind, .agg #[.int .i64 0, .slice none 0 0], .int .i64 p.f2, .int .i64 p.f3] w fun e w' => e = .returned (.tuple #[.int .u64 (yearF kind p.f2 p.f3 : Int), .int .i64 0]) ∧ Below w.heap.size w w') ∧ numB (yearF kind p.f2 p.f3) = true ∧ yearF kind p.f2 p.f3 < 18446744073709551616 := fun p hp => by
  have h1 := hin p hp
  refine ⟨fun w => ?_, year_num kind _ _ hk h1.1 h1.2⟩
  have h2 := docYear_c kind p.f2 p.f3 w hk h1.1 h1.2
  rw [year_is kind p.f2 p.f3 hk h1.1 h1.2] at h2
  exact h2
 have hpd := fun (p : S145) (nv : numB (yearF kind p.f2 p.f3) = true ∧ yearF kind p.f2 p.f3 < 18446744073709551616) => paid_is kind cur x y p hxl hyl hx hy nv
 have HMX : xaA (∀ w, Calls Tryz.prog 84 #[.int .u64 (x : Int), .int .u64 (y : Int)] w fun e w' => e = .returned (.int .u64 (mulV x y : Int)) ∧ Below w.heap.size w w') := ⟨fun w => xkB x y w hxl hyl hx hy⟩
 have hminf : numB (mulV x y) = false → mulV x y % 9223372036854775808 = 9218868437227405312 := fun h => mulV_inf hx hy h
 have hml := mulV_lt x y
 unfold lgV at *
 unfold legF
 generalize mulV x y = m at *
 generalize perA a b n = R at *
 obtain ⟨P, pe⟩ := R
 simp only at *
 obtain ⟨R, hR⟩ : ∃ R, R = (if pe = 0 then xdC kind cur x y P [] else ([], pe)) := ⟨_, rfl⟩
 rw [← hR]
 obtain ⟨rl, re⟩ := R
 have HYR := am hyr;have HPD := am hpd;have HMI := am hminf;have HMLT := am hml
 have HB : xaA (Below w.heap.size w w) := ⟨Below.refl _ _⟩
 clear hc hx hy h hin hyr hpd hminf hml hxl hyl
 go_enter Tryz.func63, Tryz.ntmps63
 go_upto_region 1 with ((with_reducible refine xaJ (N := 1) rfl ?_); refine bxv 1 #[.int .i64 1, .int .i64 kind, .int .i64 cur, .int .u64 (x : Int), .int .u64 (y : Int), .int .i64 a, .int .i64 b, .int .i64 n, .int .i64 3, .int .i64 1, .int .i64 0, .int .i64 0, .int .i64 0, .int .i64 0, .slice none 0 0] 119 ?_; intro c hg w1 hbox hb; have Bc := am hbox; have HBc := HB; replace HB := am (xaC HB.out hb); have HGc := am hg; have HLc := am (xaM hbox); clear hb hbox hg)
 obtain ⟨cc_0, cc_1, cc_2, cc_3, cc_4, cc_5, cc_6, cc_7, cc_8, cc_9, cc_10, cc_11, cc_12, cc_13, cc_14⟩ := ce15 Bc
 by_cases hpe : pe = 0
 ·
  subst hpe
  rw [if_pos rfl] at hR
  have HRES : xaA (xdC kind cur x y (P.drop 0) [] = (rl, re)) := ⟨hR.symm⟩
  have HLN := am hlen;clear hlen hR
  go_upto_if 17 with (go_at_call 82; go_loud ((with_reducible refine (HBG.out _).mono ?_); rintro z w2 ⟨AL, cL, rfl, hs, hb⟩; have HSL := am (Sl.C hs); clear hs; replace HB := am (xaC HB.out hb); replace Bc := am (xaD Bc.out hb); clear hb))
  clear cc_0 cc_1 cc_2 cc_3 cc_4 cc_5 cc_6 cc_7 cc_8 cc_9 cc_10 cc_11 cc_12 cc_13 cc_14
  go_wp2_with fail
  skip
  go_loopg [6, 7] P.length (fun kq v6 v7 w' => ∃ (i : Nat) (A2 : Option Addr) (c2 : Nat) (acc : List S48), kq + i = P.length ∧ i ≤ P.length ∧ v6 = .slice A2 i c2 ∧ v7 = .int .i64 (i : Int) ∧ xaA (i = (acc.map ofF).length) ∧ xaA (Own k79 79 w2 w' A2 c2 (acc.map ofF)) ∧ xaA (Below w2.heap.size w2 w') ∧ xaA (xdC kind cur x y (P.drop i) acc = (rl, re)))
  case atStart => exact ⟨0, none, 0, [], Nat.add_zero _, Nat.zero_le _, rfl, rfl, ⟨rfl⟩, ⟨Sl.nil _ _ _ _ _⟩, ⟨Below.refl _ _⟩, HRES⟩
  case round =>
   obtain ⟨i, A2, c2, acc, hk2, hi, rfl, rfl, HA, HO, HW, HPR⟩ := hrel
   by_cases hlt : i < P.length
   ·
    have b3 := n1t (i := i) (by have := HLN.out; omega)
    have t5 : decide (i < P.length) = true := decide_eq_true hlt
    have hpr := HPR.out
    rw [List.drop_eq_getElem_cons hlt, xdC] at hpr
    obtain ⟨ad, e, h0, h1, h2, h3, h4⟩ := at_T145 (Kd.xaQ HSL.out HW.out) (i : Int) (by omega) (by omega)
    subst e
    rw [rd145 hlt] at h0 h1 h2 h3 h4
    rw [Int.toNat_natCast] at h0 h1 h2 h3 h4
    obtain ⟨hyc, hyn⟩ := HYR.out P[i] (List.getElem_mem hlt)
    obtain ⟨p, hp⟩ : ∃ p, p = P[i] := ⟨_, rfl⟩
    rw [← hp] at hpr h0 h1 h2 h3 h4 hyc hyn
    rw [HPD.out p hyn] at hpr
    clear hp;have HY := am hyc;have HYN := am hyn;have HPR2 := am hpr
    have HM2 : xaA (P.length - (i + 1) < gk ∧ P.length - (i + 1) + (i + 1) = P.length ∧ i + 1 ≤ P.length) := ⟨by omega⟩
    generalize yearF kind p.f2 p.f3 = yv at *
    replace Bc := am (xaD Bc.out HW.out)
    clear hyc hyn hpr hk2 hi h0 h1
    obtain ⟨cc_0, cc_1, cc_2, cc_3, cc_4, cc_5, cc_6, cc_7, cc_8, cc_9, cc_10, cc_11, cc_12, cc_13, cc_14⟩ := ce15 Bc
    go_wp2_with fail
    skip
    refine xcA ?_
    refine xbL (n := 21) (S := fun w' => w'.cell? ⟨c, 1, none⟩ = some (.int .i64 kind) ∧ w'.cell? ⟨c, 2, none⟩ = some (.int .i64 cur) ∧ w'.cell? ⟨c, 13, none⟩ = some (.int .i64 0) ∧ w'.cell? ⟨c, 14, none⟩ = some (.slice none 0 0) ∧ w'.cell? ⟨(ad.add (i * 5)).block, (ad.add (i * 5)).off + 2, none⟩ = some (.int .i64 p.f2) ∧ w'.cell? ⟨(ad.add (i * 5)).block, (ad.add (i * 5)).off + 3, none⟩ = some (.int .i64 p.f3) ∧ w'.cell? ⟨(ad.add (i * 5)).block, (ad.add (i * 5)).off + 4, none⟩ = some (.int .i64 p.f4)) (ds := []) #[false, false, false, false, false, false, false, false, false, false, false, false, false, false, false, false, false, false, false, false, false] (by kernel_rfl) rfl rfl ⟨cc_1, cc_2, cc_13, cc_14, h2, h3, h4⟩ (fun hHeld => ?_)
    replace Bc := am (xaP Bc.out)
    replace HW := am (xaK HW.out)
    replace HO := am (HO.out.below (xaK (Below.refl _ _)))
    clear cc_0 cc_1 cc_2 cc_3 cc_4 cc_5 cc_6 cc_7 cc_8 cc_9 cc_10 cc_11 cc_12 cc_13 cc_14;replace h2 := hHeld.2.2.2.2.1;replace h3 := hHeld.2.2.2.2.2.1;replace h4 := hHeld.2.2.2.2.2.2
    generalize wr.drew = w3 at *
    refine rP 0 ?_
    refine rT 1 ?_
    refine rP 2 ?_
    refine rP 3 ?_
    refine rT 4 ?_
    refine rP 5 ?_
    refine rP 6 ?_
    refine rP 7 ?_
    refine rP 8 ?_
    refine rT 9 ?_
    refine rP 10 ?_
    refine rP 11 ?_
    refine rP 12 ?_
    refine rP 13 ?_
    refine rT 14 ?_
    refine rO 15 (fun K hK => ?_)
    refine goes_ Tryz.func83 (by kernel_rfl) rfl #[.int .i64 kind, .agg #[.int .i64 0, .slice none 0 0], .int .i64 p.f2, .int .i64 p.f3] (by rfl) rfl rfl (by (try simp only [List.map_toArray, List.map_cons, List.map_nil]); first | done | rfl) ?_
    with_reducible refine (HY.out _).mono ?_
    rintro z w4 ⟨rfl, hb⟩
    refine ⟨_, rfl, ?_⟩
    have hb_ := hb
    replace HO := am (HO.out.below hb)
    replace HW := am (xaC HW.out hb)
    replace Bc := am (xaD Bc.out hb)
    clear hHeld
    refine hK.out _ _ ⟨(xaB Bc.out 1).trans rfl, (xaB Bc.out 2).trans rfl, (xaB Bc.out 13).trans rfl, (xaB Bc.out 14).trans rfl, (hb_.cell (clt h2)).trans h2, (hb_.cell (clt h3)).trans h3, (hb_.cell (clt h4)).trans h4⟩ (fun hHeld => ?_)
    clear hK K
    refine rN ?_
    replace h2 := hHeld.2.2.2.2.1;replace h3 := hHeld.2.2.2.2.2.1;replace h4 := hHeld.2.2.2.2.2.2;clear hb hb_
    refine rP 16 ?_
    refine rP 17 ?_
    refine rP 18 ?_
    refine rP 19 ?_
    refine rP 20 ?_
    clear hHeld
    refine rD ?_
    skip
    obtain ⟨cc_0, cc_1, cc_2, cc_3, cc_4, cc_5, cc_6, cc_7, cc_8, cc_9, cc_10, cc_11, cc_12, cc_13, cc_14⟩ := ce15 Bc
    have HN4 := am HYN.out
    cases hm : numB m with
    | true =>
     obtain ⟨r, hr⟩ : ∃ r, r = mulV m yv := ⟨_, rfl⟩
     have HM : xaA (∀ w, Calls Tryz.prog 84 #[.int .u64 (m : Int), .int .u64 (yv : Int)] w fun e w' => e = .returned (.int .u64 (r : Int)) ∧ Below w.heap.size w w') := ⟨fun w => by rw [hr]; exact xkB m yv w HMLT.out HYN.out.2 hm HYN.out.1⟩
     have hpr := HPR2.out
     rw [← hr] at hpr
     have HNB := am (xdV r)
     cases hn : numB r with
     | true =>
      rw [hn] at HNB
      simp only [hm, hn, and_self, and_true, true_and, and_false, false_and, if_true, if_false, Bool.false_eq_true, show ((91 : Int) = 0) = False from by simp] at hpr
      have HPR3 := am hpr;clear hpr hm hn hr
      go_upto_region 14 with (first | (go_at_call 84; go_loud (first | ((with_reducible refine (HMX.out _).mono ?_); rintro z w6 ⟨rfl, hb⟩; have hb_ := hb; replace HO := am (HO.out.below hb); replace HW := am (xaC HW.out hb); replace Bc := am (xaD Bc.out hb); clear cc_0 cc_1 cc_2 cc_3 cc_4 cc_5 cc_6 cc_7 cc_8 cc_9 cc_10 cc_11 cc_12 cc_13 cc_14; replace h4 := (hb_.cell (clt h4)).trans h4; clear hb hb_ h2 h3; obtain ⟨cc_0, cc_1, cc_2, cc_3, cc_4, cc_5, cc_6, cc_7, cc_8, cc_9, cc_10, cc_11, cc_12, cc_13, cc_14⟩ := ce15 Bc; have h2 := h4; have h3 := h4) | ((with_reducible refine (HM.out _).mono ?_); rintro z w7 ⟨rfl, hb⟩; have hb_ := hb; replace HO := am (HO.out.below hb); replace HW := am (xaC HW.out hb); replace Bc := am (xaD Bc.out hb); clear cc_0 cc_1 cc_2 cc_3 cc_4 cc_5 cc_6 cc_7 cc_8 cc_9 cc_10 cc_11 cc_12 cc_13 cc_14; replace h4 := (hb_.cell (clt h4)).trans h4; clear hb hb_ h2 h3; obtain ⟨cc_0, cc_1, cc_2, cc_3, cc_4, cc_5, cc_6, cc_7, cc_8, cc_9, cc_10, cc_11, cc_12, cc_13, cc_14⟩ := ce15 Bc; have h2 := h4; have h3 := h4))) | (go_at_call 85; go_loud ((with_reducible refine (HNB.out _).mono ?_); rintro z w8 ⟨rfl, hw_⟩; obtain rfl := hw_.symm)))
      skip
      refine xbL (n := 13) (S := fun w' => w'.cell? ⟨c, 2, none⟩ = some (.int .i64 cur) ∧ w'.cell? ⟨(ad.add (i * 5)).block, (ad.add (i * 5)).off + 4, none⟩ = some (.int .i64 p.f4)) (ds := [10, 11]) #[false, false, false, false, false, false, false, false, false, false, false, false, false] (by kernel_rfl) rfl rfl ⟨cc_2, h4⟩ (fun hHeld => ?_)
      replace HW := am (xaK HW.out)
      replace HO := am (HO.out.below (xaK (Below.refl _ _)))
      clear cc_0 cc_1 cc_2 cc_3 cc_4 cc_5 cc_6 cc_7 cc_8 cc_9 cc_10 cc_11 cc_12 cc_13 cc_14 h2 h3 h4 Bc
      generalize w7.drew = w9 at *
      refine rP 0 ?_
      refine rP 1 ?_
      refine rP 2 ?_
      refine rP 3 ?_
      refine rP 4 ?_
      refine rT 5 ?_
      refine rP 6 ?_
      refine rP 7 ?_
      refine rT 8 ?_
      refine rP 9 ?_
      clear hHeld
      refine rL 10 (fun K hK => ?_)
      refine xbP (w1 := ?_) (v := ?_) (by rfl) rfl ?_ ?_
      rotate_left 2
      ·
       go_simp
       constructor
       ·
        rfl
       ·
        rfl
      refine hK.out _ _ ?_
      clear hK K
      refine rN ?_
      refine rL 11 (fun K hK => ?_)
      refine Sl.xlY (by rfl) (.tmp 57) (.tmp 67) 28 (.agg #[.int .i64 0, .int .u64 0, .int .i64 0]) 24 rfl Tryz.underlying28 xeF rfl (by decide) (by omega) (xhY w9 (⟨p.f4, (r : Int), cur⟩ : S79)) HA.out rfl rfl HO.out HW.out (by have := HLN.out; have := HM2.out; omega) ?_
      intro A6 c6 wa hs5 hb5 _
      have HO6 := am hs5;have HW6 := am hb5
      refine hK.out _ _ ?_
      clear hK K hs5 hb5
      refine rN ?_
      refine rP 12 ?_
      refine rD ?_
      go_wp2_with fail
      skip
      go_roundg (P.length - (i + 1))
      case measure => exact HM2.out.1
      case rel => exact ⟨i + 1, A6, c6, acc ++ [⟨p.f4, r, cur⟩], HM2.out.2.1, HM2.out.2.2, rfl, by first | rfl | rw [b3], ⟨by rw [List.map_append, List.length_append, ← HA.out]; rfl⟩, ⟨by rw [List.map_append]; exact HO6.out⟩, HW6, HPR3⟩
     | false =>
      rw [hn] at HNB
      simp only [hm, hn, and_self, and_true, true_and, and_false, false_and, if_true, if_false, Bool.false_eq_true, show ((91 : Int) = 0) = False from by simp] at hpr
      have HPR3 := am hpr;clear hpr hm hn hr
      go_wp2_with (first | (go_at_call 84; go_loud (first | ((with_reducible refine (HMX.out _).mono ?_); rintro z w6 ⟨rfl, hb⟩; have hb_ := hb; replace HO := am (HO.out.below hb); replace HW := am (xaC HW.out hb); replace Bc := am (xaD Bc.out hb); clear cc_0 cc_1 cc_2 cc_3 cc_4 cc_5 cc_6 cc_7 cc_8 cc_9 cc_10 cc_11 cc_12 cc_13 cc_14; replace h4 := (hb_.cell (clt h4)).trans h4; clear hb hb_ h2 h3; obtain ⟨cc_0, cc_1, cc_2, cc_3, cc_4, cc_5, cc_6, cc_7, cc_8, cc_9, cc_10, cc_11, cc_12, cc_13, cc_14⟩ := ce15 Bc; have h2 := h4; have h3 := h4) | ((with_reducible refine (HM.out _).mono ?_); rintro z w7 ⟨rfl, hb⟩; have hb_ := hb; replace HO := am (HO.out.below hb); replace HW := am (xaC HW.out hb); replace Bc := am (xaD Bc.out hb); clear cc_0 cc_1 cc_2 cc_3 cc_4 cc_5 cc_6 cc_7 cc_8 cc_9 cc_10 cc_11 cc_12 cc_13 cc_14; replace h4 := (hb_.cell (clt h4)).trans h4; clear hb hb_ h2 h3; obtain ⟨cc_0, cc_1, cc_2, cc_3, cc_4, cc_5, cc_6, cc_7, cc_8, cc_9, cc_10, cc_11, cc_12, cc_13, cc_14⟩ := ce15 Bc; have h2 := h4; have h3 := h4))) | (go_at_call 85; go_loud ((with_reducible refine (HNB.out _).mono ?_); rintro z w8 ⟨rfl, hw_⟩; obtain rfl := hw_.symm)))
      go_ret2
      have h1 := HPR3.out
      injection h1 with h1 h2
      exact ⟨none, 0, by rw [← h1, ← h2]; first | done | rfl, by rw [← h1]; exact Sl.nil _ _ _ _ _, HB.out.trans (HW.out.mono HB.out.size)⟩
    | false =>
     have HM : xaA (∀ w, Calls Tryz.prog 84 #[.int .u64 (m : Int), .int .u64 (yv : Int)] w fun e w' => ∃ r : Nat, e = .returned (.int .u64 (r : Int)) ∧ numB r = false ∧ w' = w) := ⟨fun w => mulInf_c m yv w HMLT.out HYN.out.2 (HMI.out hm) HYN.out.1⟩
     have hpr := HPR2.out
     simp only [hm, and_self, and_true, true_and, and_false, false_and, if_true, if_false, Bool.false_eq_true, show ((91 : Int) = 0) = False from by simp] at hpr
     have HPR3 := am hpr;clear hpr hm
     go_wp2_with (first | (go_at_call 84; go_loud (first | ((with_reducible refine (HMX.out _).mono ?_); rintro z w6 ⟨rfl, hb⟩; have hb_ := hb; replace HO := am (HO.out.below hb); replace HW := am (xaC HW.out hb); replace Bc := am (xaD Bc.out hb); clear cc_0 cc_1 cc_2 cc_3 cc_4 cc_5 cc_6 cc_7 cc_8 cc_9 cc_10 cc_11 cc_12 cc_13 cc_14; replace h4 := (hb_.cell (clt h4)).trans h4; clear hb hb_ h2 h3; obtain ⟨cc_0, cc_1, cc_2, cc_3, cc_4, cc_5, cc_6, cc_7, cc_8, cc_9, cc_10, cc_11, cc_12, cc_13, cc_14⟩ := ce15 Bc; have h2 := h4; have h3 := h4) | ((with_reducible refine (HM.out _).mono ?_); rintro z w7 ⟨r, rfl, hrn, hw_⟩; obtain rfl := hw_.symm; have HNB : xaA (∀ w, Calls Tryz.prog 85 #[.int .u64 (r : Int)] w fun e w' => e = .returned (.bool false) ∧ w' = w) := ⟨fun w => by have h := xdV r w; rwa [hrn] at h⟩; clear hrn))) | (go_at_call 85; go_loud ((with_reducible refine (HNB.out _).mono ?_); rintro z w8 ⟨rfl, hw_⟩; obtain rfl := hw_.symm)))
     skip
     go_ret2
     have h1 := HPR3.out
     injection h1 with h1 h2
     exact ⟨none, 0, by rw [← h1, ← h2]; first | done | rfl, by rw [← h1]; exact Sl.nil _ _ _ _ _, HB.out.trans (HW.out.mono HB.out.size)⟩
   ·
    have hpr := HPR.out
    have hall : i = P.length := by omega
    rw [List.drop_of_length_le (by omega), xdC] at hpr
    have HPR2 := am hpr
    have t5 : decide (i < P.length) = false := decide_eq_false hlt
    clear hpr hk2 hi hlt
    go_wp2_with fail
    go_ret2
    have h1 := HPR2.out
    injection h1 with h1 h2
    exact ⟨A2, c2, by rw [← h1, ← h2, HA.out, List.length_map]; first | done | rfl, by rw [← h1]; exact HO.out.low HB.out.size, HB.out.trans (HW.out.mono HB.out.size)⟩
 ·
  rw [if_neg hpe] at hR
  injection hR with h1 h2
  subst h1 h2
  have t6 : (re != 0) = true := bne_iff_ne.2 hpe
  clear hpe hlen HPD HYR
  go_wp2_with (go_at_call 82; go_loud ((with_reducible refine (HBG.out _).mono ?_); rintro z w2 ⟨AL, cL, rfl, hs, hb⟩; clear hs; replace HB := am (xaC HB.out hb); replace Bc := am (xaD Bc.out hb); clear hb))
  go_ret2
  exact ⟨none, 0, rfl, Sl.nil _ _ _ _ _, HB.out⟩
end Go.Proofs.YtkabcgmegljebaaGreatDoor.D
namespace Go.Proofs.YtkabcgmegljebaaGreatDoor.H
open Go.RowKit Go.Proofs.YtkabcgmegljebaaGreatDoorW.PrintWords Go.Proofs.YtkabcgmegljebaaGreatDoorW.PrintLast Go.Proofs.YtkabcgmegljebaaGreatDoorW.PrintMore
def setL (w : World) (b : Nat) : Nat → List Value → World
  | _, [] => w
  | k, v :: r => setL (w.setCell ⟨b, k, none⟩ v) b (k + 1) r
theorem xkW {b : Nat} {t : TypeId} : ∀ (vs pre old : List Value) (w : World), vs.length = old.length → w.heap[b]? = some (.cells (pre ++ old).toArray t (0, 0)) → (setL w b pre.length vs).heap[b]? = some (.cells (pre ++ vs).toArray t (0, 0))
 | [], pre, old, w, hl, h => by
  rw [setL, h, List.eq_nil_of_length_eq_zero hl.symm]
 | v :: r, pre, o :: old, w, hl, h => by
  rw [setL]
  have h1 : (w.setCell ⟨b, pre.length, none⟩ v).heap[b]? = some (.cells ((pre ++ [v]) ++ old).toArray t (0, 0)) := xaN h pre.length v (by simp)
  have h2 := xkW r (pre ++ [v]) old _ (by simpa using hl) h1
  rw [List.length_append, List.length_singleton, List.append_assoc] at h2
  exact h2
 | _ :: _, _, [], _, hl, _ => by simp at hl
theorem xbD {w : World} {b : Nat} {t : TypeId} {old : List Value} {vs : List Value} (h : w.heap[b]? = some (.cells old.toArray t (0, 0))) (hl : vs.length = old.length) : (setL w b 0 vs).heap[b]? = some (.cells vs.toArray t (0, 0)) :=
  xkW vs [] old w hl h
theorem xaW {b g : Nat} (hne : g ≠ b) : ∀ (vs : List Value) (k : Nat) (w : World), (setL w b k vs).heap[g]? = w.heap[g]?
  | [], _, _ => rfl
  | v :: r, k, w => by rw [setL, xaW hne r, Below.heap_setCell _ ⟨b, k, none⟩ v g hne]
theorem xaY {w0 : World} {b : Nat} (hb : w0.heap.size ≤ b) : ∀ (vs : List Value) (k : Nat) (w : World), Below w0.heap.size w0 w → Below w0.heap.size w0 (setL w b k vs)
  | [], _, _, h => h
  | v :: r, k, w, h => xaY hb r (k + 1) _ (xaF h hb)
end Go.Proofs.YtkabcgmegljebaaGreatDoor.H
namespace Go.Proofs.YtkabcgmegljebaaGreatDoor.D
open Go.RowKit Go.Proofs.YtkabcgmegljebaaGreatDoorW.PrintWords Go.Proofs.YtkabcgmegljebaaGreatDoorW.PrintLast Go.Proofs.YtkabcgmegljebaaGreatDoorW.PrintMore
open Go.Proofs.YtkabcgmegljebaaGreatDoor.Q Go.Proofs.YtkabcgmegljebaaGreatDoor.H
theorem leg_c (kind cur : Int) (x y : Nat) (a b n : Int) (w : World) : Calls Tryz.prog 64 #[.int .u64 (x : Int), .int .u64 (y : Int), .int .i64 kind, .int .i64 a, .int .i64 b, .int .i64 n, .int .i64 cur] w fun e w' => e = .returned (lgV kind cur x y a b n) ∧ Below w.heap.size w w' := by
 have HB : xaA (Below w.heap.size w w) := ⟨Below.refl _ _⟩
 unfold lgV
 go_enter Tryz.func64, Tryz.ntmps64
 go_upto_region 1 with ((with_reducible refine xaJ (N := 14) rfl ?_); refine bxv 14 #[.int .i64 0, .int .i64 0, .int .i64 0, .int .u64 0, .int .u64 0, .int .i64 0, .int .i64 0, .int .i64 0, .int .i64 0, .int .i64 0, .int .i64 0, .int .i64 0, .int .i64 0, .int .i64 0, .slice none 0 0] 119 ?_; intro g hg w1 hbox hb; have Bg := am hbox; have HBg := HB; replace HB := am (xaC HB.out hb); have HGg := am hg; have HLg := am (xaM hbox); clear hb hbox hg)
 have hgb : xaA (w.heap.size ≤ g) := ⟨Nat.le_of_eq HGg.out.symm⟩
 have cg_ := cz15 Bg
 go_wp2_with fail
 skip
 clear cg_
 obtain ⟨wz, hwz⟩ : ∃ wz, setL w1 g 0 [.int .i64 1, .int .i64 kind, .int .i64 cur, .int .u64 (x : Int), .int .u64 (y : Int), .int .i64 a, .int .i64 b, .int .i64 n, .int .i64 3, .int .i64 1, .int .i64 0, .int .i64 0, .int .i64 0, .int .i64 0, .slice none 0 0] = wz := ⟨_, rfl⟩
 replace Bg := am (hwz ▸ xbD (vs := [.int .i64 1, .int .i64 kind, .int .i64 cur, .int .u64 (x : Int), .int .u64 (y : Int), .int .i64 a, .int .i64 b, .int .i64 n, .int .i64 3, .int .i64 1, .int .i64 0, .int .i64 0, .int .i64 0, .int .i64 0, .slice none 0 0]) Bg.out rfl)
 replace HB := am (hwz ▸ xaY hgb.out _ 0 _ HB.out)
 simp only [setL, Nat.reduceAdd] at hwz
 rw [hwz]
 clear hwz;have cg_ := ce15 Bg
 exact bodyPost_ret (v := .agg #[.int .i64 1, .int .i64 kind, .int .i64 cur, .int .u64 (x : Int), .int .u64 (y : Int), .int .i64 a, .int .i64 b, .int .i64 n, .int .i64 3, .int .i64 1, .int .i64 0, .int .i64 0, .int .i64 0, .int .i64 0, .slice none 0 0]) (by simp [results, Tryz.results64, go_sem, cg_]) rfl ⟨rfl, HB.out⟩
def Bit (l : List S48) : Prop := ∀ f ∈ l, f.f1 < 18446744073709551616
theorem giveD_c (l : List S48) (A : Option Addr) (c : Nat) (w : World) (hr : Kd.C k79 w A l.length (l.map ofF)) (hl : l.length ≤ 4096) (hb : Bit l) :
  Calls Tryz.prog 86 #[.slice A l.length c] w fun e w' => ∃ A' c', e = .returned (.slice A' l.length c') ∧ Own k79 79 w w' A' c' ((l.map ngF).map ofF) ∧ Below w.heap.size w w' := by
 have HR := am hr;have HL := am hl;have HBT := am hb;clear hr hl hb
 go_enter Tryz.func86, Tryz.ntmps86
 go_wp2_with fail
 go_loopg [3, 4] l.length (fun kq v3 v4 w' => ∃ (i : Nat) (A2 : Option Addr) (c2 : Nat), kq + i = l.length ∧ i ≤ l.length ∧ v3 = .slice A2 i c2 ∧ v4 = .int .i64 (i : Int) ∧ xaA (Own k79 79 w w' A2 c2 (((l.take i).map ngF).map ofF)) ∧ xaA (Below w.heap.size w w'))
 case atStart => exact ⟨0, none, 0, Nat.add_zero _, Nat.zero_le _, rfl, rfl, ⟨Sl.nil _ _ _ _ _⟩, ⟨Below.refl _ _⟩⟩
 case round =>
  obtain ⟨i, A2, c2, hk, hi, rfl, rfl, HO, HW⟩ := hrel
  by_cases hlt : i < l.length
  ·
   have t1 : decide (i < l.length) = true := decide_eq_true hlt
   have b3 := n1t (i := i) (by have := HL.out; omega)
   obtain ⟨ad, e, h0, h1, h2⟩ := xlV (Kd.xaQ HR.out HW.out) (i : Int) (by omega) (by omega)
   subst e
   rw [rd79 hlt] at h0 h1 h2
   rw [Int.toNat_natCast] at h0 h1 h2
   have HFL := am (flip_c l[i].f1 · (HBT.out _ (List.getElem_mem hlt)))
   obtain ⟨p, hp⟩ : ∃ p, p = l[i] := ⟨_, rfl⟩
   rw [← hp] at h0 h1 h2 HFL
   simp only [ofF] at h0 h1 h2
   have HXX : xaA (p = l[i]) := ⟨hp⟩
   have HLT := am hlt;have HI := am hi
   have HM2 : xaA (l.length - (i + 1) < gk ∧ l.length - (i + 1) + (i + 1) = l.length ∧ i + 1 ≤ l.length) := ⟨by omega⟩
   obtain ⟨nb, hnb⟩ : ∃ nb, nb = Op.negFloat .f64 p.f1 := ⟨_, rfl⟩
   rw [← hnb] at HFL
   have HNB : xaA (ofF (ngF p) = ⟨p.f0, (nb : Int), p.f2⟩) := ⟨by rw [hnb]; rfl⟩
   clear hp hk hi hnb
   go_wp2_with fail
   skip
   refine xbL (n := 21) (S := fun w' => w'.cell? (ad.add (i * 3)) = some (.int .i64 p.f0) ∧ w'.cell? ⟨(ad.add (i * 3)).block, (ad.add (i * 3)).off + 1, none⟩ = some (.int .u64 (p.f1 : Int)) ∧ w'.cell? ⟨(ad.add (i * 3)).block, (ad.add (i * 3)).off + 2, none⟩ = some (.int .i64 p.f2)) (ds := [18, 19]) #[false, false, false, false, false, false, false, false, false, false, false, false, false, false, false, false, false, false, false, false, false] (by kernel_rfl) rfl rfl ⟨h0, h1, h2⟩ (fun hHeld => ?_)
   replace HW := am (xaK HW.out)
   replace HO := am (HO.out.below (xaK (Below.refl _ _)))
   clear h0 h1 h2
   generalize wr.drew = w3 at *
   refine rP 0 ?_
   refine rP 1 ?_
   refine rP 2 ?_
   refine rP 3 ?_
   refine rP 4 ?_
   refine rT 5 ?_
   refine rP 6 ?_
   refine rP 7 ?_
   refine rP 8 ?_
   refine rP 9 ?_
   refine rT 10 ?_
   refine rP 12 ?_
   refine rP 13 ?_
   refine rP 14 ?_
   refine rP 15 ?_
   refine rT 16 ?_
   refine rO 11 (fun K hK => ?_)
   refine goes_ Tryz.func115 (by kernel_rfl) rfl #[.int .u64 (p.f1 : Int)] (by rfl) rfl rfl (by (try simp only [List.map_toArray, List.map_cons, List.map_nil]); first | done | rfl) ?_
   with_reducible refine (HFL.out _).mono ?_
   rintro z w4 ⟨rfl, hw_⟩
   refine ⟨_, rfl, ?_⟩
   obtain rfl := hw_.symm
   refine hK.out _ _ hHeld (fun hHeld => ?_)
   clear hK K
   refine rN ?_
   refine rP 17 ?_
   clear hHeld
   refine rL 18 (fun K hK => ?_)
   refine xbP (w1 := ?_) (v := ?_) (by rfl) rfl ?_ ?_
   rotate_left 2
   ·
    go_simp
    constructor
    ·
     rfl
    ·
     rfl
   refine hK.out _ _ ?_
   clear hK K
   refine rN ?_
   refine rL 19 (fun K hK => ?_)
   refine Sl.xlY (by rfl) (.tmp 11) (.tmp 29) 28 (.agg #[.int .i64 0, .int .u64 0, .int .i64 0]) 24 rfl Tryz.underlying28 xeF rfl (by decide) (by omega) (xhY w3 (⟨p.f0, (nb : Int), p.f2⟩ : S79)) (by rw [List.length_map, List.length_map, List.length_take, Nat.min_eq_left HI.out]) rfl rfl HO.out HW.out (by have := HL.out; have := HM2.out; omega) ?_
   intro A6 c6 wa hs5 hb5 _
   have HO6 := am hs5;have HW6 := am hb5
   refine hK.out _ _ ?_
   clear hK K hs5 hb5
   refine rN ?_
   refine rP 20 ?_
   refine rD ?_
   go_wp2_with fail
   skip
   rw [← HNB.out] at HO6
   go_roundg (l.length - (i + 1))
   case measure => exact HM2.out.1
   case rel => exact ⟨i + 1, A6, c6, HM2.out.2.1, HM2.out.2.2, rfl, by first | rfl | rw [b3], ⟨by rw [xdA ngF l i HLT.out, List.map_append, ← HXX.out]; exact HO6.out⟩, HW6⟩
  ·
   have t1 : decide (i < l.length) = false := decide_eq_false hlt
   have he : i = l.length := by omega
   have HE := am he;clear hk hi hlt he
   go_wp2_with fail
   go_ret
   exact ⟨A2, c2, by rw [HE.out]; first | done | rfl, by have h := HO.out; rw [HE.out, List.take_length] at h; exact h, HW.out⟩
def ScR (x : Nat) (l r : List S48) (er : Int) : Prop := if l.all (fun f => numB (mulN x f.f1)) = true then er = 0 ∧ r = l.map (scF x) else er = 91 ∧ r = []
theorem scF_is {x : Nat} {p : S48} (hx : x < 18446744073709551616) (hp : p.f1 < 18446744073709551616) (nx : numB x = true) (np : numB p.f1 = true) : ofF (scF x p) = ⟨p.f0, (mulV x p.f1 : Int), p.f2⟩ := by
  show (⟨p.f0, (mulN x p.f1 : Int), p.f2⟩ : S79) = _
  rw [(xkC hx hp nx np).2]
theorem scaleD_c (x : Nat) (l : List S48) (A : Option Addr) (c : Nat) (w : World) (hr : Kd.C k79 w A l.length (l.map ofF)) (hl : l.length ≤ 4096) (hb : Bit l) (hx : x < 18446744073709551616) (nx : numB x = true) (hn : ∀ f ∈ l, numB f.f1 = true) :
  Calls Tryz.prog 87 #[.int .u64 (x : Int), .slice A l.length c] w fun e w' => ∃ A' c' r er, e = .returned (.tuple #[.slice A' r.length c', .int .i64 er]) ∧ ScR x l r er ∧ Own k79 79 w w' A' c' (r.map ofF) ∧ Below w.heap.size w w' := by
 have HR := am hr;have HL := am hl
 have HX : xaA (∀ p ∈ l, ofF (scF x p) = ⟨p.f0, (mulV x p.f1 : Int), p.f2⟩ ∧ mulN x p.f1 = mulV x p.f1 ∧ ∀ w, Calls Tryz.prog 84 #[.int .u64 (x : Int), .int .u64 (p.f1 : Int)] w fun e w' => e = .returned (.int .u64 (mulV x p.f1 : Int)) ∧ Below w.heap.size w w') := ⟨fun p hp => ⟨scF_is hx (hb p hp) nx (hn p hp), (xkC hx (hb p hp) nx (hn p hp)).2, fun w => xkB x p.f1 w hx (hb p hp) nx (hn p hp)⟩⟩
 have HNX : xaA (∀ w, Calls Tryz.prog 85 #[.int .u64 (x : Int)] w fun e w' => e = .returned (.bool true) ∧ w' = w) := ⟨fun w => by have h := xdV x w; rwa [nx] at h⟩
 clear hr hl hb hx nx hn
 go_enter Tryz.func87, Tryz.ntmps87
 go_wp2_with (go_at_call 85; go_loud ((with_reducible refine (HNX.out _).mono ?_); rintro z w8 ⟨rfl, hw_⟩; obtain rfl := hw_.symm))
 skip
 go_loopg [6, 7] l.length (fun kq v6 v7 w' => ∃ (i : Nat) (A2 : Option Addr) (c2 : Nat), kq + i = l.length ∧ i ≤ l.length ∧ v6 = .slice A2 i c2 ∧ v7 = .int .i64 (i : Int) ∧ xaA (Own k79 79 w w' A2 c2 (((l.take i).map (scF x)).map ofF)) ∧ xaA (Below w.heap.size w w') ∧ xaA ((l.take i).all (fun f => numB (mulN x f.f1)) = true))
 case atStart => exact ⟨0, none, 0, Nat.add_zero _, Nat.zero_le _, rfl, rfl, ⟨Sl.nil _ _ _ _ _⟩, ⟨Below.refl _ _⟩, ⟨rfl⟩⟩
 case round =>
  obtain ⟨i, A2, c2, hk, hi, rfl, rfl, HO, HW, HAL⟩ := hrel
  by_cases hlt : i < l.length
  ·
   have t1 : decide (i < l.length) = true := decide_eq_true hlt
   have b3 := n1t (i := i) (by have := HL.out; omega)
   obtain ⟨ad, e, h0, h1, h2⟩ := xlV (Kd.xaQ HR.out HW.out) (i : Int) (by omega) (by omega)
   subst e
   rw [rd79 hlt] at h0 h1 h2
   rw [Int.toNat_natCast] at h0 h1 h2
   obtain ⟨hsc, hmn, hmc⟩ := HX.out l[i] (List.getElem_mem hlt)
   have HALL : xaA (l.all (fun f => numB (mulN x f.f1)) = true → numB (mulN x l[i].f1) = true) := ⟨fun h => List.all_eq_true.1 h _ (List.getElem_mem hlt)⟩
   have HTK : xaA (numB (mulN x l[i].f1) = true → (l.take (i + 1)).all (fun f => numB (mulN x f.f1)) = true) := ⟨fun h => by rw [List.take_succ_eq_append_getElem hlt, List.all_append, HAL.out]; simp [h]⟩
   obtain ⟨p, hp⟩ : ∃ p, p = l[i] := ⟨_, rfl⟩
   rw [← hp] at h0 h1 h2 hsc hmn hmc HALL HTK
   simp only [ofF] at h0 h1 h2
   rw [hmn] at HALL HTK
   have HXX : xaA (p = l[i]) := ⟨hp⟩
   have HLT := am hlt;have HI := am hi
   have HM2 : xaA (l.length - (i + 1) < gk ∧ l.length - (i + 1) + (i + 1) = l.length ∧ i + 1 ≤ l.length) := ⟨by omega⟩
   have HSC := am hsc;have HMC := am hmc
   generalize mulV x p.f1 = mv at *
   have HNM := am (xdV mv)
   cases hnm : numB mv with
   | false =>
    rw [hnm] at HNM HALL
    have HNA : xaA (¬ l.all (fun f => numB (mulN x f.f1)) = true) := ⟨fun h => absurd (HALL.out h) (by decide)⟩
    clear hp hk hi hsc hmc hmn hnm
    go_wp2_with (first | (go_at_call 84; go_loud ((with_reducible refine (HMC.out _).mono ?_); rintro z w5 ⟨rfl, hb⟩; replace HW := am (xaC HW.out hb); clear hb)) | (go_at_call 85; go_loud ((with_reducible refine (HNM.out _).mono ?_); rintro z w8 ⟨rfl, hw_⟩; obtain rfl := hw_.symm)))
    go_ret2
    exact ⟨none, 0, [], 91, rfl, by unfold ScR; rw [if_neg HNA.out]; exact ⟨rfl, rfl⟩, Sl.nil _ _ _ _ _, HW.out⟩
   | true =>
    rw [hnm] at HNM
    replace HTK := am (HTK.out hnm)
    clear hp hk hi hsc hmc hmn hnm HALL
    go_upto_region 10 with (first | (go_at_call 84; go_loud ((with_reducible refine (HMC.out _).mono ?_); rintro z w5 ⟨rfl, hb⟩; replace HW := am (xaC HW.out hb); replace HO := am (HO.out.below hb); have hb_ := hb; clear hb; replace h0 := (hb_.cell (clt h0)).trans h0; replace h2 := (hb_.cell (clt h2)).trans h2; clear h1 hb_)) | (go_at_call 85; go_loud ((with_reducible refine (HNM.out _).mono ?_); rintro z w8 ⟨rfl, hw_⟩; obtain rfl := hw_.symm)))
    skip
    refine xbL (n := 16) (S := fun w' => w'.cell? (ad.add (i * 3)) = some (.int .i64 p.f0) ∧ w'.cell? ⟨(ad.add (i * 3)).block, (ad.add (i * 3)).off + 2, none⟩ = some (.int .i64 p.f2)) (ds := [13, 14]) #[false, false, false, false, false, false, false, false, false, false, false, false, false, false, false, false] (by kernel_rfl) rfl rfl ⟨h0, h2⟩ (fun hHeld => ?_)
    replace HW := am (xaK HW.out)
    replace HO := am (HO.out.below (xaK (Below.refl _ _)))
    clear h0 h2
    generalize w5.drew = w3 at *
    refine rP 0 ?_
    refine rP 1 ?_
    refine rP 2 ?_
    refine rP 3 ?_
    refine rP 4 ?_
    refine rT 5 ?_
    refine rP 6 ?_
    refine rP 7 ?_
    refine rP 8 ?_
    refine rP 9 ?_
    refine rP 10 ?_
    refine rT 11 ?_
    refine rP 12 ?_
    clear hHeld
    refine rL 13 (fun K hK => ?_)
    refine xbP (w1 := ?_) (v := ?_) (by rfl) rfl ?_ ?_
    rotate_left 2
    ·
     go_simp
     constructor
     ·
      rfl
     ·
      rfl
    refine hK.out _ _ ?_
    clear hK K
    refine rN ?_
    refine rL 14 (fun K hK => ?_)
    refine Sl.xlY (by rfl) (.tmp 28) (.tmp 41) 28 (.agg #[.int .i64 0, .int .u64 0, .int .i64 0]) 24 rfl Tryz.underlying28 xeF rfl (by decide) (by omega) (xhY w3 (⟨p.f0, (mv : Int), p.f2⟩ : S79)) (by rw [List.length_map, List.length_map, List.length_take, Nat.min_eq_left HI.out]) rfl rfl HO.out HW.out (by have := HL.out; have := HM2.out; omega) ?_
    intro A6 c6 wa hs5 hb5 _
    have HO6 := am hs5;have HW6 := am hb5
    refine hK.out _ _ ?_
    clear hK K hs5 hb5
    refine rN ?_
    refine rP 15 ?_
    refine rD ?_
    go_wp2_with fail
    skip
    rw [← HSC.out] at HO6
    go_roundg (l.length - (i + 1))
    case measure => exact HM2.out.1
    case rel => exact ⟨i + 1, A6, c6, HM2.out.2.1, HM2.out.2.2, rfl, by first | rfl | rw [b3], ⟨by rw [xdA (scF x) l i HLT.out, List.map_append, ← HXX.out]; exact HO6.out⟩, HW6, HTK⟩
  ·
   have t1 : decide (i < l.length) = false := decide_eq_false hlt
   have he : i = l.length := by omega
   have HE := am he;clear hk hi hlt he
   go_wp2_with fail
   go_ret2
   have h := HO.out;have h2 := HAL.out
   rw [HE.out, List.take_length] at h h2
   exact ⟨A2, c2, l.map (scF x), 0, by rw [HE.out, List.length_map]; first | done | rfl, by unfold ScR; rw [if_pos h2]; exact ⟨rfl, rfl⟩, h, HW.out⟩
theorem windowD_c (a b : Int) (l : List S48) (A : Option Addr) (c : Nat) (w : World) (hr : Kd.C k79 w A l.length (l.map ofF)) (hl : l.length ≤ 4096) :
  Calls Tryz.prog 88 #[.slice A l.length c, .int .i64 a, .int .i64 b] w fun e w' => ∃ A' c', e = .returned (.slice A' (l.filter (inW a b)).length c') ∧ Own k79 79 w w' A' c' ((l.filter (inW a b)).map ofF) ∧ Below w.heap.size w w' := by
 have HR := am hr;have HL := am hl;clear hr hl
 go_enter Tryz.func88, Tryz.ntmps88
 go_wp2_with fail
 go_loopg [7, 8] l.length (fun kq v7 v8 w' => ∃ (i n : Nat) (A2 : Option Addr) (c2 : Nat), kq + i = l.length ∧ i ≤ l.length ∧ v7 = .slice A2 n c2 ∧ v8 = .int .i64 (i : Int) ∧ xaA (n = (((l.take i).filter (inW a b)).map ofF).length) ∧ xaA (Own k79 79 w w' A2 c2 (((l.take i).filter (inW a b)).map ofF)) ∧ xaA (Below w.heap.size w w'))
 case atStart => exact ⟨0, 0, none, 0, Nat.add_zero _, Nat.zero_le _, rfl, rfl, ⟨rfl⟩, ⟨Sl.nil _ _ _ _ _⟩, ⟨Below.refl _ _⟩⟩
 case round =>
  obtain ⟨i, n, A2, c2, hk, hi, rfl, rfl, HN, HO, HW⟩ := hrel
  by_cases hlt : i < l.length
  ·
   have t1 : decide (i < l.length) = true := decide_eq_true hlt
   have b3 := n1t (i := i) (by have := HL.out; omega)
   obtain ⟨ad, e, h0, h1, h2⟩ := xlV (Kd.xaQ HR.out HW.out) (i : Int) (by omega) (by omega)
   subst e
   rw [rd79 hlt] at h0 h1 h2
   rw [Int.toNat_natCast] at h0 h1 h2
   have htk := xfC (inW a b) l i hlt
   have hnn : n ≤ l.length := by have h := HN.out; rw [List.length_map] at h; have h2 := List.length_filter_le (inW a b) (l.take i); rw [List.length_take] at h2; omega
   obtain ⟨p, hp⟩ : ∃ p, p = l[i] := ⟨_, rfl⟩
   rw [← hp] at h0 h1 h2 htk
   simp only [ofF] at h0 h1 h2
   have HNN := am hnn;have HTK := am htk
   have HM2 : xaA (l.length - (i + 1) < gk ∧ l.length - (i + 1) + (i + 1) = l.length ∧ i + 1 ≤ l.length) := ⟨by omega⟩
   obtain ⟨q1, hq1⟩ : ∃ q, decide (a ≤ p.f0) = q := ⟨_, rfl⟩
   obtain ⟨q2, hq2⟩ : ∃ q, decide (p.f0 < b) = q := ⟨_, rfl⟩
   have hq : inW a b p = (q1 && q2) := by unfold inW; rw [hq1, hq2]
   have HQ := am hq;clear hp hk hi htk hnn hq
   cases q1
   ·
    go_wp2_with fail
    skip
    have h := HTK.out
    rw [HQ.out] at h
    simp only [Bool.false_and, Bool.false_eq_true, if_false, List.append_nil] at h
    go_roundg (l.length - (i + 1))
    case measure => exact HM2.out.1
    case rel => exact ⟨i + 1, n, A2, c2, HM2.out.2.1, HM2.out.2.2, rfl, by first | rfl | rw [b3], ⟨by rw [h]; exact HN.out⟩, ⟨by rw [h]; exact HO.out⟩, HW⟩
   ·
    cases q2
    ·
     go_wp2_with fail
     have h := HTK.out
     rw [HQ.out] at h
     simp only [Bool.and_false, Bool.false_eq_true, if_false, List.append_nil] at h
     go_roundg (l.length - (i + 1))
     case measure => exact HM2.out.1
     case rel => exact ⟨i + 1, n, A2, c2, HM2.out.2.1, HM2.out.2.2, rfl, by first | rfl | rw [b3], ⟨by rw [h]; exact HN.out⟩, ⟨by rw [h]; exact HO.out⟩, HW⟩
    ·
     go_wp2_with ((with_reducible refine xaR (b := .append) (xs := #[.tmp 31, .tmp 36]) rfl ?_); go_loud (refine Sl.app1 rfl (.tmp 31) (.tmp 36) 28 (.agg #[.int .i64 0, .int .u64 0, .int .i64 0]) 24 rfl Tryz.underlying28 xeF rfl (by decide) (by omega) (xhY wr (ofF p)) HN.out rfl rfl HO.out HW.out (by have := HL.out; have := HNN.out; omega) ?_; intro A6 c6 w6 hs5 hb5 hk5; have HO6 := am hs5; have HW6 := am hb5; clear hs5 hb5 hk5))
     skip
     have h := HTK.out
     rw [HQ.out] at h
     simp only [Bool.and_self, if_true] at h
     go_roundg (l.length - (i + 1))
     case measure => exact HM2.out.1
     case rel => exact ⟨i + 1, n + 1, A6, c6, HM2.out.2.1, HM2.out.2.2, rfl, by first | rfl | rw [b3], ⟨by rw [h, List.map_append, List.length_append, ← HN.out]; rfl⟩, ⟨by rw [h, List.map_append]; exact HO6.out⟩, HW6⟩
  ·
   have t1 : decide (i < l.length) = false := decide_eq_false hlt
   have he : i = l.length := by omega
   have HE := am he;clear hk hi hlt he
   go_wp2_with fail
   go_ret
   have h := HO.out;have h2 := HN.out
   rw [HE.out, List.take_length] at h h2
   exact ⟨A2, c2, by rw [h2, List.length_map]; first | done | rfl, h, HW.out⟩
structure AgI (mo : Int) (N : Nat) (xs seg : List S48) (R : List S48 × Int) (k j : Nat) (cur : List S48) : Prop where
 pre : cur.take xs.length = xs
 len : xs.length ≤ cur.length ∧ cur.length ≤ 4096
 bit : Bit cur
 num : ∀ f ∈ cur, numB f.f1 = true
 res : R = pushes mo cur ((seg.drop j).map (fun f => ((k : Int), f)) ++ pairs seg (k + 1) N)
theorem ag_get {xs seg cur : List S48} {m j : Nat} (hp : cur.take xs.length = xs) (hl : xs.length ≤ cur.length) (hs : seg = xs.drop m) (hj : j < seg.length) : ∃ h : m + j < cur.length, cur[m + j] = seg[j] := by
 subst hs
 have h1 : m + j < xs.length := by rw [List.length_drop] at hj; omega
 refine ⟨by omega, ?_⟩
 rw [List.getElem_drop]
 have h2 : xs[m + j]'h1 = (cur.take xs.length)[m + j]'(by rw [hp]; exact h1) := by congr 1; exact hp.symm
 rw [h2, List.getElem_take]
theorem ag_step {mo : Int} {N k j : Nat} {xs seg cur : List S48} {R : List S48 × Int} (h : AgI mo N xs seg R k j cur) (hj : j < seg.length) :
  (cur.length = 4096 ∧ R = (cur, 81)) ∨ (cur.length < 4096 ∧ (mon seg[j].f0 ((k : Int) * mo)).2 ≠ 0 ∧ R = (cur, (mon seg[j].f0 ((k : Int) * mo)).2)) ∨ (cur.length < 4096 ∧ (mon seg[j].f0 ((k : Int) * mo)).2 = 0 ∧ (seg[j].f1 < 18446744073709551616 → numB seg[j].f1 = true → AgI mo N xs seg R k (j + 1) (cur ++ [⟨(mon seg[j].f0 ((k : Int) * mo)).1, seg[j].f1, seg[j].f2⟩]))) := by
 obtain ⟨h1, h2, h3, h3n, h4⟩ := h
 rw [List.drop_eq_getElem_cons hj, List.map_cons, List.cons_append, pushes] at h4
 by_cases hf : cur.length = 4096
 ·
  rw [if_pos hf] at h4; exact Or.inl ⟨hf, h4⟩
 ·
  rw [if_neg hf] at h4
  by_cases hm : (mon seg[j].f0 ((k : Int) * mo)).2 = 0
  ·
   rw [if_pos hm] at h4
   refine Or.inr (Or.inr ⟨by omega, hm, fun hb hn => ⟨?_, ⟨?_, ?_⟩, ?_, ?_, h4⟩⟩)
   ·
    rw [List.take_append_of_le_length h2.1, h1]
   ·
    rw [List.length_append]; omega
   ·
    rw [List.length_append, List.length_singleton]; omega
   ·
    intro f hf2
    rcases List.mem_append.1 hf2 with hf2 | hf2
    ·
     exact h3 f hf2
    ·
     rw [List.mem_singleton.1 hf2]; exact hb
   ·
    intro f hf2
    rcases List.mem_append.1 hf2 with hf2 | hf2
    ·
     exact h3n f hf2
    ·
     rw [List.mem_singleton.1 hf2]; exact hn
  ·
   rw [if_neg hm] at h4
   exact Or.inr (Or.inl ⟨by omega, hm, h4⟩)
theorem ag_next {mo : Int} {N k j : Nat} {xs seg cur : List S48} {R : List S48 × Int} (h : AgI mo N xs seg R k j cur) (hj : seg.length ≤ j) (hk : k + 1 < N) : AgI mo N xs seg R (k + 1) 0 cur := by
 obtain ⟨h1, h2, h3, h3n, h4⟩ := h
 refine ⟨h1, h2, h3, h3n, ?_⟩
 rw [List.drop_eq_nil_of_le hj, List.map_nil, List.nil_append, xgN seg (k + 1) N hk] at h4
 exact h4
theorem ag_end {mo : Int} {N k j : Nat} {xs seg cur : List S48} {R : List S48 × Int} (h : AgI mo N xs seg R k j cur) (hj : seg.length ≤ j) (hk : N ≤ k + 1) : R = (cur, 0) := by
 obtain ⟨h1, h2, h3, h3n, h4⟩ := h
 rw [List.drop_eq_nil_of_le hj, List.map_nil, List.nil_append, xhV seg (k + 1) N hk] at h4
 exact h4
theorem ag_kmo {k : Nat} {mo : Int} (hk : k ≤ 5000) (hm : 0 ≤ mo ∧ mo ≤ 100000) : IntKind.i64.wrap ((k : Int) * mo) = (k : Int) * mo := by
 have h1 : 0 ≤ (k : Int) * mo := Int.mul_nonneg (by omega) hm.1
 have h2 : (k : Int) * mo ≤ 5000 * 100000 := Int.mul_le_mul (by omega) hm.2 hm.1 (by decide)
 generalize (k : Int) * mo = z at *
 rw [i64_w]; unfold wrap64; omega
theorem again_c (mo : Int) (N m : Nat) (xs : List S48) (A : Option Addr) (c : Nat) (w0 w : World) (hs : Own k79 79 w0 w A c (xs.map ofF)) (hB : Below w0.heap.size w0 w) (hm : m ≤ xs.length) (hl : xs.length ≤ 4096) (hN : 1 ≤ N ∧ N ≤ 4096) (hmo : 0 ≤ mo ∧ mo ≤ 100000) (hbt : Bit xs) (hnm : ∀ f ∈ xs, numB f.f1 = true) :
  Calls Tryz.prog 89 #[.slice A xs.length c, .int .i64 (m : Int), .int .i64 (N : Int), .int .i64 mo] w fun e w' => ∃ A' c' r er, e = .returned (.tuple #[.slice A' r.length c', .int .i64 er]) ∧ er = (pushes mo xs (pairs (xs.drop m) 1 N)).2 ∧ (er = 0 → r = (pushes mo xs (pairs (xs.drop m) 1 N)).1) ∧ (er ≠ 0 → r = []) ∧ Own k79 79 w0 w' A' c' (r.map ofF) ∧ Below w0.heap.size w0 w' := by
 obtain ⟨seg, hseg⟩ : ∃ seg, seg = xs.drop m := ⟨_, rfl⟩
 rw [← hseg]
 obtain ⟨R, hR⟩ : ∃ R, R = pushes mo xs (pairs seg 1 N) := ⟨_, rfl⟩
 rw [← hR]
 have hst : 1 < N → AgI mo N xs seg R 1 0 xs := fun h => ⟨List.take_length, ⟨Nat.le_refl _, hl⟩, hbt, hnm, by rw [hR, xgN seg 1 N h]; rfl⟩
 have hst1 : N ≤ 1 → R = (xs, 0) := fun h => by rw [hR, xhV seg 1 N h]; rfl
 have hslen : seg.length = xs.length - m := by rw [hseg, List.length_drop]
 have HS := am hs;have HB := am hB;have HL := am hl;have HM := am hm;have HN := am hN;have HMO := am hmo;have HSEG := am hseg;have HST := am hst;have HST1 := am hst1;have HSL := am hslen;have HMC := am months_c
 obtain ⟨n0, hn0⟩ : ∃ n0, n0 = xs.length := ⟨_, rfl⟩
 rw [← hn0]
 have HN0 := am hn0;clear hs hB hm hl hN hmo hbt hnm hseg hR hst hst1 hslen hn0
 go_enter Tryz.func89, Tryz.ntmps89
 go_wp2_with fail
 skip
 go_loopg [0, 11] (N - 1) (fun kq v0 v11 w' => ∃ (k n : Nat) (A2 : Option Addr) (c2 : Nat) (cur : List S48), kq = N - k ∧ v0 = .slice A2 n c2 ∧ v11 = .int .i64 (k : Int) ∧ xaA (1 ≤ k ∧ k ≤ N) ∧ xaA (n = (cur.map ofF).length) ∧ xaA (k < N → AgI mo N xs seg R k 0 cur) ∧ xaA (N ≤ k → R = (cur, 0)) ∧ xaA (Own k79 79 w0 w' A2 c2 (cur.map ofF)) ∧ xaA (Below w0.heap.size w0 w'))
 case atStart => exact ⟨1, n0, A, c, xs, rfl, rfl, rfl, ⟨by have := HN.out; omega⟩, ⟨by rw [List.length_map]; exact HN0.out⟩, HST, HST1, HS, HB⟩
 case round =>
  obtain ⟨k, n, A2, c2, cur, hkq, rfl, rfl, HK, HNC, HI, HE, HO, HW⟩ := hrel
  by_cases hlt : k < N
  ·
   have t1 : decide (k < N) = true := decide_eq_true hlt
   replace HI := am (HI.out hlt)
   have HMQ : xaA (N - (k + 1) < gk) := ⟨by omega⟩
   have b3 := n1t (i := k) (by have := HN.out; omega)
   have hkm := ag_kmo (k := k) (by have := HN.out; omega) HMO.out
   obtain ⟨km, hkm2⟩ : ∃ km, km = (k : Int) * mo := ⟨_, rfl⟩
   replace hkm := hkm.trans hkm2.symm;have HKM := am hkm2;have HLT := am hlt;clear hkm2 hkq HE hlt
   go_wp2_with fail
   skip
   go_loopg [0, 12] seg.length (fun kq v0 v12 w' => ∃ (j q n : Nat) (A2 : Option Addr) (c2 : Nat) (cur : List S48), kq = seg.length - j ∧ v0 = .slice A2 n c2 ∧ v12 = .int .i64 (q : Int) ∧ xaA (q = m + j) ∧ xaA (j ≤ seg.length) ∧ xaA (n = (cur.map ofF).length) ∧ xaA (AgI mo N xs seg R k j cur) ∧ xaA (Own k79 79 w0 w' A2 c2 (cur.map ofF)) ∧ xaA (Below w0.heap.size w0 w'))
   case atStart => exact ⟨0, m, n, A2, c2, cur, rfl, rfl, rfl, ⟨rfl⟩, ⟨Nat.zero_le _⟩, HNC, HI, HO, HW⟩
   case round =>
    obtain ⟨j, q, n, A2, c2, cur, hjq, rfl, rfl, HQ, HJ, HNC, HI, HO, HW⟩ := hrel
    have hq := HQ.out
    have hcl : n = cur.length := by have h := HNC.out; rwa [List.length_map] at h
    by_cases hlt : j < seg.length
    ·
     have t2 : decide (q < n0) = true := decide_eq_true (by have := HSL.out; have := HN0.out; have := HM.out; omega)
     have b4 := n1t (i := q) (by have := HSL.out; have := HL.out; have := HM.out; omega)
     have HMQ2 : xaA (seg.length - (j + 1) < gk ∧ j + 1 ≤ seg.length) := ⟨by omega⟩
     obtain ⟨hmj, hget⟩ := ag_get HI.out.pre HI.out.len.1 HSEG.out hlt
     have hst := ag_step HI.out hlt
     rw [← hget] at hst
     simp only [← hq] at hmj hst
     obtain ⟨ad, e, h0, h1, h2⟩ := xlV (Sl.C HO.out) (q : Int) (by omega) (by rw [List.length_map]; omega)
     subst e
     rw [rd79 hmj] at h0 h1 h2
     rw [Int.toNat_natCast] at h0 h1 h2
     have hnn : q < n := by omega
     have hcb : cur[q].f1 < 18446744073709551616 := HI.out.bit _ (List.getElem_mem hmj)
     have hcn : numB cur[q].f1 = true := HI.out.num _ (List.getElem_mem hmj)
     obtain ⟨p, hp⟩ : ∃ p, p = cur[q] := ⟨_, rfl⟩
     rw [← hp] at h0 h1 h2 hst hcb hcn
     simp only [ofF] at h0 h1 h2
     rw [← HKM.out] at hst
     have HMS := am (fun w => HMC.out p.f0 km w)
     unfold mon at hst
     generalize (M.xdX p.f0 km false).1 = md at *
     generalize (M.xdX p.f0 km false).2 = me at *
     have HCL := am hcl;clear hp hget hjq hlt hq
     rcases hst with ⟨hf, hr⟩ | ⟨hf, hme, hr⟩ | ⟨hf, hme, hr⟩
     ·
      have HRR := am hr
      have t3 : ((n : Int) == 4096) = true := beq_iff_eq.2 (by omega)
      clear hr hf hcl
      go_wp2_with fail
      go_ret2
      exact ⟨none, 0, [], 81, rfl, by rw [HRR.out], fun h => absurd h (by decide), fun _ => rfl, Sl.nil _ _ _ _ _, HW.out⟩
     ·
      have HRR := am hr
      have t3 : ((n : Int) == 4096) = false := beq_eq_false_iff_ne.2 (by omega)
      have t4 : (me != 0) = true := bne_iff_ne.2 hme
      have HME := am hme;clear hr hf hcl hme
      go_wp2_with (go_at_call 116; go_loud ((with_reducible refine (HMS.out _).mono ?_); rintro z w5 ⟨rfl, hb⟩; have HW5 := am (HW.out.trans (hb.mono HW.out.size)); clear hb))
      go_ret2
      exact ⟨none, 0, [], me, rfl, by rw [HRR.out], fun h => absurd h HME.out, fun _ => rfl, Sl.nil _ _ _ _ _, HW5.out⟩
     ·
      subst hme
      have HIN := am (hr hcb hcn)
      have t3 : ((n : Int) == 4096) = false := beq_eq_false_iff_ne.2 (by omega)
      have HF := am hf;clear hr hf hcl
      go_upto_region 13 with (go_at_call 116; go_loud ((with_reducible refine (HMS.out _).mono ?_); rintro z w5 ⟨rfl, hb⟩; have HW5 := am (HW.out.trans (hb.mono HW.out.size)); replace HO := am (HO.out.below hb); have hb_ := hb; clear hb; replace h1 := (hb_.cell (clt h1)).trans h1; replace h2 := (hb_.cell (clt h2)).trans h2; clear h0 hb_ HW))
      skip
      refine xbL (n := 16) (S := fun w' => w'.cell? ⟨(ad.add (q * 3)).block, (ad.add (q * 3)).off + 1, none⟩ = some (.int .u64 (p.f1 : Int)) ∧ w'.cell? ⟨(ad.add (q * 3)).block, (ad.add (q * 3)).off + 2, none⟩ = some (.int .i64 p.f2)) (ds := [13, 14]) #[false, false, false, false, false, false, false, false, false, false, false, false, false, false, false, false] (by kernel_rfl) rfl rfl ⟨h1, h2⟩ (fun hHeld => ?_)
      replace HW5 := am (xaK HW5.out)
      replace HO := am (HO.out.below (xaK (Below.refl _ _)))
      clear h1 h2
      generalize w5.drew = w3 at *
      refine rP 0 ?_
      refine rP 1 ?_
      refine rP 2 ?_
      refine rP 3 ?_
      refine rP 4 ?_
      refine rP 5 ?_
      refine rT 6 ?_
      refine rP 7 ?_
      refine rP 8 ?_
      refine rP 9 ?_
      refine rP 10 ?_
      refine rT 11 ?_
      refine rP 12 ?_
      clear hHeld
      refine rL 13 (fun K hK => ?_)
      refine xbP (w1 := ?_) (v := ?_) (by rfl) rfl ?_ ?_
      rotate_left 2
      ·
       go_simp
       constructor
       ·
        rfl
       ·
        rfl
      refine hK.out _ _ ?_
      clear hK K
      refine rN ?_
      refine rL 14 (fun K hK => ?_)
      refine Sl.xlY (by rfl) (.tmp 46) (.tmp 59) 28 (.agg #[.int .i64 0, .int .u64 0, .int .i64 0]) 24 rfl Tryz.underlying28 xeF rfl (by decide) (by omega) (xhY w3 (⟨md, (p.f1 : Int), p.f2⟩ : S79)) HNC.out rfl rfl HO.out HW5.out (by have := HCL.out; have := HF.out; omega) ?_
      intro A6 c6 wa hs5 hb5 _
      have HO6 := am hs5;have HW6 := am hb5
      refine hK.out _ _ ?_
      clear hK K hs5 hb5
      refine rN ?_
      refine rP 15 ?_
      refine rD ?_
      go_wp2_with fail
      skip
      go_roundg (seg.length - (j + 1))
      case measure => exact HMQ2.out.1
      case rel => exact ⟨j + 1, q + 1, n + 1, A6, c6, cur ++ [⟨md, p.f1, p.f2⟩], rfl, rfl, by first | rfl | rw [b4], ⟨by rw [HQ.out, Nat.add_assoc]⟩, ⟨HMQ2.out.2⟩, ⟨by rw [List.map_append, List.length_append, ← HNC.out]; rfl⟩, HIN, ⟨by rw [List.map_append]; exact HO6.out⟩, HW6⟩
    ·
     have hjl : seg.length ≤ j := by omega
     have t2 : decide (q < n0) = false := decide_eq_false (by have := HSL.out; have := HN0.out; have := HM.out; have := HJ.out; omega)
     have HJL := am hjl;clear hjq hlt hcl hjl hq
     go_wp2_with fail
     skip
     go_roundg (N - (k + 1))
     case measure => exact HMQ.out
     case rel => exact ⟨k + 1, n, A2, c2, cur, rfl, rfl, by first | rfl | rw [b3], ⟨by have := HLT.out; have := HK.out; omega⟩, HNC, ⟨fun h => ag_next HI.out HJL.out h⟩, ⟨fun h => ag_end HI.out HJL.out h⟩, HO, HW⟩
  ·
   have t1 : decide (k < N) = false := decide_eq_false hlt
   have HRR := am (HE.out (by omega))
   clear hkq hlt
   go_wp2_with fail
   go_ret2
   exact ⟨A2, c2, cur, 0, by rw [HNC.out, List.length_map]; first | done | rfl, by rw [HRR.out], fun _ => by rw [HRR.out], fun h => absurd rfl h, HO.out, HW.out⟩
end Go.Proofs.YtkabcgmegljebaaGreatDoor.D
