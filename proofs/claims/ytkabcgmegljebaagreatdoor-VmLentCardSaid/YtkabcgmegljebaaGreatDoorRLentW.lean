/- The walk of the law VmLent: it tells true. Condition: the table of kinds; the floats are floats. -/
import Derived.Test.YtkabcgmegljebaaGreatDoorRDxC
import Derived.Test.YtkabcgmegljebaaGreatDoorRGU
set_option maxHeartbeats 8000000
set_option maxRecDepth 100000
set_option linter.unusedVariables false
set_option linter.unusedSimpArgs false
namespace Go.Proofs.YtkabcgmegljebaaGreatDoor.D
open Go.RowKit Go.Proofs.YtkabcgmegljebaaGreatDoorW.PrintWords Go.Proofs.YtkabcgmegljebaaGreatDoorW.PrintLast Go.Proofs.YtkabcgmegljebaaGreatDoorW.PrintMore
open Go.Proofs.YtkabcgmegljebaaGreatDoor.Q Go.Proofs.YtkabcgmegljebaaGreatDoor.H
section
variable (l : List S37) (A : Option Addr) (c : Nat) (w : World)
theorem lent_bad (hk : KT w) (hr : Kd.C k37 w A l.length l) (hbit : ∀ o ∈ l, o.f1 < 18446744073709551616 ∧ o.f2 < 18446744073709551616) (hl : l.length ≤ 60) (he : (chk l).1 ≠ 0) : Calls Tryz.prog 4 #[.slice A l.length c] w fun e w' => e = .returned (.bool true) ∧ Below w.heap.size w w' := by
 have HB := am (Below.refl w.heap.size w)
 have t1 : decide ((l.length : Int) > 60) = false := decide_eq_false (by omega)
 have HL := am hl;have HK := am hk;have HR := am hr
 have HDO := am (ofD_c l A c w hr (by omega))
 have hdr := fun (A : Option Addr) c w (base : Nat) hs hb => runD_c l A c w (base := base) hs hb hbit
 have hnew := fun (w' : World) (A' : Option Addr) (c' : Nat) h1 h2 => xmG (w := w') (A := A') (c := c') (l := l) h1 h2 (xjF l) he
 have t2 : ((chk l).1 != 0) = true := bne_iff_ne.2 he
 generalize H.runT fixF ((chk l).1, (chk l).2.1) l = res at hdr
 obtain ⟨lw, fw⟩ := res
 simp only at hnew hdr
 generalize (chk l).1 = e1 at *
 generalize (chk l).2.1 = a1 at *
 have HNEW := am hnew;have HDR := am hdr;clear hk hr hbit hl he hnew hdr
 go_enter Tryz.func4, Tryz.ntmps4
 go_upto_region 4 with (go_at_call 12; go_loud ((with_reducible refine (HDO.out).mono ?_); rintro z w1 ⟨A2, c2, rfl, hs, hb⟩; have HO := am hs; have HZ1 := am hb.size; clear hs; replace HB := am (xaC HB.out hb); clear hb))
 skip
 go_upto_region 5 with (first | ((with_reducible refine xaR (b := .append) (xs := #[.tmp 24, .tmp 25]) rfl ?_); go_loud (refine Sl.app (d := k37) (xs := []) rfl (.tmp 24) (.tmp 25) 22 (.agg #[.int .i64 0, .float .f64 0, .float .f64 0, .int .i64 0, .int .i64 0, .int .i64 0, .int .i64 0, .int .i64 0, .int .i64 0]) 72 rfl Tryz.underlying22 xlM rfl (by decide) (by omega) (n := 0) rfl rfl rfl (own_zero k37 37 w1) (xaH (Below.refl _ _) _) (Kd.xaQ (Kd.xaQ HR.out HB.out) (xaH (Below.refl _ _) _)) (by have := HL.out; omega) ?_; intro A3 c3 w2 hs hb _; rw [List.nil_append] at hs; have HS := am hs; have HW := am hb; clear hs hb)) | ((with_reducible refine xaR (b := .append) (xs := #[.tmp 26, .tmp 28]) rfl ?_); go_loud (refine Sl.app1 (d := k37) (xs := l) rfl (.tmp 26) (.tmp 28) 22 (.agg #[.int .i64 0, .float .f64 0, .float .f64 0, .int .i64 0, .int .i64 0, .int .i64 0, .int .i64 0, .int .i64 0, .int .i64 0]) 72 rfl Tryz.underlying22 xlM rfl (by decide) (by omega) (xhZ w2 (⟨77, 0, 0, 0, 0, 0, 0, 0, 0⟩ : S37)) (n := l.length) rfl (by go_simp; try rfl) (by go_simp; try rfl) HS.out HW.out (by have := HL.out; omega) ?_; intro A4 c4 w3 hs hb _; replace HS := am hs; replace HW := am hb; clear hs hb)))
 skip
 obtain ⟨b4, o4, hA4⟩ := Own.addr HS.out (by simp)
 subst hA4
 have hc4 : l.length ≤ c4 := by have h := HS.out.le; simp at h; omega
 have HP : xaA (Kd.C k37 w3 (some ⟨b4, o4, none⟩) l.length l) := ⟨by
  have h := (HS.out.head l.length c4 (by simp) hc4 (Nat.le_refl _)).C
  rw [List.take_left] at h
  exact h⟩
 have HB4 : xaA (w1.heap.size ≤ b4 ∧ b4 < w3.heap.size) := ⟨HS.out.xfB b4 ⟨_, rfl, rfl⟩⟩
 replace HO := am (HO.out.below HW.out)
 replace HB := am (xaC HB.out HW.out)
 go_upto_region 6 with (go_at_call 14; go_loud ((with_reducible refine (HNEW.out _ _ c4 (HK.out.below HB.out) HP.out).mono ?_); rintro z w4 ⟨rfl, hb⟩; replace HS := am (HS.out.below hb); replace HO := am (HO.out.below hb); replace HB := am (xaC HB.out hb); clear hb))
 skip
 go_upto_region 7 with (go_at_call 11; go_loud ((with_reducible refine (HDR.out _ _ _ _ HO.out.ownF HB.out.size).mono ?_); rintro z w5 ⟨A6, c6, rfl, hs, hb⟩; replace HS := am (HS.out.below hb); clear hs; replace HB := am (xaC HB.out hb); clear hb))
 obtain ⟨ad, e, q0, q1, q2, q3, q4, q5, q6, q7, q8⟩ := xlW (HS.out.C) (l.length : Int) (by omega) (by rw [List.length_append]; simp; omega)
 injection e with e
 subst e
 rw [rd37 (by simp), List.getElem_append_right (Nat.le_refl _)] at q0 q1 q2 q3 q4 q5 q6 q7 q8
 simp only [Nat.sub_self, List.getElem_cons_zero, Int.toNat_natCast, Addr.add_lit] at q0 q1 q2 q3 q4 q5 q6 q7 q8
 skip
 go_wp2_with (go_at_call 9; go_loud ((with_reducible refine (xfH _ (HK.out.below HB.out)).mono ?_); rintro z w20 ⟨rfl, hb⟩; replace HB := am (xaC HB.out hb); clear hb))
 skip
 go_ret
 exact ⟨rfl, HB.out⟩
theorem lent_ok (hk : KT w) (hr : Kd.C k37 w A l.length l) (hbit : ∀ o ∈ l, o.f1 < 18446744073709551616 ∧ o.f2 < 18446744073709551616) (hl : l.length ≤ 60) (he : (chk l).1 = 0) : Calls Tryz.prog 4 #[.slice A l.length c] w fun e w' => e = .returned (.bool true) ∧ Below w.heap.size w w' := by
 have HB := am (Below.refl w.heap.size w)
 have t1 : decide ((l.length : Int) > 60) = false := decide_eq_false (by omega)
 have HL := am hl;have HK := am hk;have HR := am hr
 have HDO := am (ofD_c l A c w hr (by omega))
 have hdr := fun (A : Option Addr) c w (base : Nat) hs hb => runD_c l A c w (base := base) hs hb hbit
 have hg := (xeZ he).1
 have hnew := fun (w' : World) (A' : Option Addr) (c' : Nat) h1 h2 => new_ok (w := w') (A := A') (c := c') (l := l) h1 h2 (xjF l) he hg.len
 have hsi := xhC (fxs := fixF) (s := st0 l) hg (inv0 l) ((l.length : Int) + 1)
 have hzf : xcD (stepM fixF (st0 l) ((l.length : Int) + 1)).2.2 = H.runT fixF ((chk l).1, (chk l).2.1) l := by
  unfold H.runT
  rw [if_pos he, run_doc l hg.len]
  unfold stepM
  rw [show (st0 l).ended = false from rfl, if_neg (by decide), if_neg (by omega), show ((l.length : Int) + 1).toNat = l.length + 1 by omega]
 have hst := fun (w' : World) (b g : Nat) (F : Nat → Prop) A1 c1 (hm : Mx w' b g F A1 c1 none 0 none 0 (st0 l)) => step_ok (fxs := fixF) hm hg (inv0 l) ((l.length : Int) + 1) (by omega)
 have hwr : IntKind.i64.wrap ((l.length : Int) + 1) = (l.length : Int) + 1 := by rw [i64_w]; unfold wrap64; omega
 generalize H.runT fixF ((chk l).1, (chk l).2.1) l = res at hdr hzf
 generalize stepM fixF (st0 l) ((l.length : Int) + 1) = SM at hsi hzf hst
 obtain ⟨lw, fw⟩ := res
 have hfl := fun (w' : World) (b g : Nat) (F : Nat → Prop) A1 c1 A2 c2 A3 c3 (hm : Mx w' b g F A1 c1 A2 c2 A3 c3 SM.2.2) => xhG hm hsi.1.ok.len
 have hlw : lw.length ≤ 4096 := by
  have h := congrArg (fun r => r.1.length) hzf
  simp only at h
  rw [← h]
  unfold xcD
  split
  ·
   split
   ·
    exact hsi.1.ok.len
   ·
    exact Nat.zero_le _
  ·
   exact Nat.zero_le _
 simp only [hzf] at hfl
 simp only at hdr
 have t3 : (fw == fw) = true := beq_self_eq_true _
 have HNEW := am hnew;have HDR := am hdr;have HST := am hst;have HFL := am hfl;have HLW := am hlw;clear hk hr hbit hl he hnew hdr hst hfl hsi hzf hg hlw
 go_enter Tryz.func4, Tryz.ntmps4
 go_upto_region 4 with (go_at_call 12; go_loud ((with_reducible refine (HDO.out).mono ?_); rintro z w1 ⟨A2, c2, rfl, hs, hb⟩; have HO := am hs; have HZ1 := am hb.size; clear hs; replace HB := am (xaC HB.out hb); clear hb))
 skip
 go_upto_region 5 with (first | ((with_reducible refine xaR (b := .append) (xs := #[.tmp 24, .tmp 25]) rfl ?_); go_loud (refine Sl.app (d := k37) (xs := []) rfl (.tmp 24) (.tmp 25) 22 (.agg #[.int .i64 0, .float .f64 0, .float .f64 0, .int .i64 0, .int .i64 0, .int .i64 0, .int .i64 0, .int .i64 0, .int .i64 0]) 72 rfl Tryz.underlying22 xlM rfl (by decide) (by omega) (n := 0) rfl rfl rfl (own_zero k37 37 w1) (xaH (Below.refl _ _) _) (Kd.xaQ (Kd.xaQ HR.out HB.out) (xaH (Below.refl _ _) _)) (by have := HL.out; omega) ?_; intro A3 c3 w2 hs hb _; rw [List.nil_append] at hs; have HS := am hs; have HW := am hb; clear hs hb)) | ((with_reducible refine xaR (b := .append) (xs := #[.tmp 26, .tmp 28]) rfl ?_); go_loud (refine Sl.app1 (d := k37) (xs := l) rfl (.tmp 26) (.tmp 28) 22 (.agg #[.int .i64 0, .float .f64 0, .float .f64 0, .int .i64 0, .int .i64 0, .int .i64 0, .int .i64 0, .int .i64 0, .int .i64 0]) 72 rfl Tryz.underlying22 xlM rfl (by decide) (by omega) (xhZ w2 (⟨77, 0, 0, 0, 0, 0, 0, 0, 0⟩ : S37)) (n := l.length) rfl (by go_simp; try rfl) (by go_simp; try rfl) HS.out HW.out (by have := HL.out; omega) ?_; intro A4 c4 w3 hs hb _; replace HS := am hs; replace HW := am hb; clear hs hb)))
 skip
 obtain ⟨b4, o4, hA4⟩ := Own.addr HS.out (by simp)
 subst hA4
 have hc4 : l.length ≤ c4 := by have h := HS.out.le; simp at h; omega
 have HP : xaA (Kd.C k37 w3 (some ⟨b4, o4, none⟩) l.length l) := ⟨by
  have h := (HS.out.head l.length c4 (by simp) hc4 (Nat.le_refl _)).C
  rw [List.take_left] at h
  exact h⟩
 have HB4 : xaA (w1.heap.size ≤ b4 ∧ b4 < w3.heap.size) := ⟨HS.out.xfB b4 ⟨_, rfl, rfl⟩⟩
 replace HO := am (HO.out.below HW.out)
 replace HB := am (xaC HB.out HW.out)
 go_upto_region 6 with (go_at_call 14; go_loud ((with_reducible refine (HNEW.out _ _ c4 (HK.out.below HB.out) HP.out).mono ?_); rintro z w4 ⟨gn, A5, c5, rfl, hb, hx, ho⟩; replace HS := am (HS.out.below hb); replace HO := am (HO.out.below hb); replace HP := am (Kd.xaQ HP.out hb); have HX := am hx; have HA5 := am ho; clear hx ho; replace HB := am (xaC HB.out hb); clear hb))
 skip
 have HBG : xaA (b4 < w3.heap.size ∧ gn ≠ b4 ∧ w.heap.size ≤ b4) := ⟨by have h1 := HB4.out; have h2 := (HX.out.hF gn rfl).1; have h3 := HZ1.out; omega⟩
 go_upto_region 7 with (go_at_call 11; go_loud ((with_reducible refine (HDR.out _ _ _ _ HO.out.ownF HB.out.size).mono ?_); rintro z w5 ⟨A6, c6, rfl, hs, hb⟩; replace HS := am (HS.out.below hb); replace HO := am (HO.out.below hb); replace HP := am (Kd.xaQ HP.out hb); replace HX := am (HX.out.below hb); have HD := am hs; clear hs; replace HB := am (xaC HB.out hb); clear hb))
 skip
 go_upto_region 11 with (go_at_call 15; go_loud ((with_reducible refine (sameD_c l _ _ c4 c2 _ HP.out (by have h := HO.out.C; rwa [List.length_map] at h) (by have := HL.out; omega)).mono ?_); rintro z w6 ⟨rfl, hb⟩; replace HS := am (HS.out.below hb); replace HX := am (HX.out.below hb); replace HD := am (HD.out.below hb); replace HB := am (xaC HB.out hb); clear hb; obtain ⟨ad, e, q0, q1, q2, q3, q4, q5, q6, q7, q8⟩ := xlW (HS.out.C) (l.length : Int) (by omega) (by rw [List.length_append]; simp; omega); injection e with e; subst e; rw [rd37 (by simp), List.getElem_append_right (Nat.le_refl _)] at q0 q1 q2 q3 q4 q5 q6 q7 q8; simp only [Nat.sub_self, List.getElem_cons_zero, Int.toNat_natCast, Addr.add_lit] at q0 q1 q2 q3 q4 q5 q6 q7 q8))
 skip
 clear q0 q1 q2 q3 q4 q5 q6 q7 q8 HP
 go_wp2_with fail
 go_loopg [10] l.length (fun kq v10 w' => ∃ i : Nat, i ≤ l.length ∧ kq + i = l.length ∧ v10 = .int .i64 (i : Int) ∧ xaA (Room w' (some ⟨b4, o4, none⟩) 37 (l.length + 1) 9) ∧ xaA (Fr (own (some ⟨b4, o4, none⟩)) w6 w'))
 case atStart => exact ⟨0, Nat.zero_le _, Nat.add_zero _, rfl, ⟨room_of HS.out (by simp)⟩, ⟨Fr.refl _ _⟩⟩
 case round =>
  obtain ⟨i, hi, hk, rfl, HRM, HF⟩ := hrel
  by_cases hlt : i < l.length
  ·
   have t5 : decide (i < l.length) = true := decide_eq_true hlt
   have b3 := n1t (i := i) (by have := HL.out; omega)
   obtain ⟨b, off, cur, hA, hbk, hsz⟩ := HRM.out (by omega)
   injection hA with hA
   injection hA with hA hA2
   subst hA hA2
   have hin : i < l.length + 1 := by omega
   obtain ⟨v0, h0⟩ := xdZ hbk (o4 + i * 9) (by omega)
   obtain ⟨v1, h1⟩ := xdZ hbk (o4 + i * 9 + 1) (by omega)
   obtain ⟨v2, h2⟩ := xdZ hbk (o4 + i * 9 + 2) (by omega)
   obtain ⟨v3, h3⟩ := xdZ hbk (o4 + i * 9 + 3) (by omega)
   obtain ⟨v4, h4⟩ := xdZ hbk (o4 + i * 9 + 4) (by omega)
   obtain ⟨v5, h5⟩ := xdZ hbk (o4 + i * 9 + 5) (by omega)
   obtain ⟨v6, h6⟩ := xdZ hbk (o4 + i * 9 + 6) (by omega)
   obtain ⟨v7, h7⟩ := xdZ hbk (o4 + i * 9 + 7) (by omega)
   obtain ⟨v8, h8⟩ := xdZ hbk (o4 + i * 9 + 8) (by omega)
   have z0 := xaE hbk (o4 + i * 9)
   have z1 := xaE hbk (o4 + i * 9 + 1)
   have z2 := xaE hbk (o4 + i * 9 + 2)
   have z3 := xaE hbk (o4 + i * 9 + 3)
   have z4 := xaE hbk (o4 + i * 9 + 4)
   have z5 := xaE hbk (o4 + i * 9 + 5)
   have z6 := xaE hbk (o4 + i * 9 + 6)
   have z7 := xaE hbk (o4 + i * 9 + 7)
   have z8 := xaE hbk (o4 + i * 9 + 8)
   have HM2 : xaA (l.length - (i + 1) < gk ∧ i + 1 ≤ l.length ∧ l.length - (i + 1) + (i + 1) = l.length) := ⟨by omega⟩
   clear hk hi hbk hsz
   go_wp2_with fail
   skip
   obtain ⟨wz, hwz⟩ : ∃ wz, setL wr b4 (o4 + i * 9) [.int .i64 78, .float .f64 0, .float .f64 0, .int .i64 0, .int .i64 0, .int .i64 0, .int .i64 0, .int .i64 0, .int .i64 0] = wz := ⟨_, rfl⟩
   have HF2 := am (hwz ▸ xdG (G := own (some ⟨b4, o4, none⟩)) (w0 := w6) (Or.inl ⟨_, rfl, rfl⟩) [.int .i64 78, .float .f64 0, .float .f64 0, .int .i64 0, .int .i64 0, .int .i64 0, .int .i64 0, .int .i64 0, .int .i64 0] (o4 + i * 9) _ HF.out)
   have HR2 : xaA (Room wz (some ⟨b4, o4, none⟩) 37 (l.length + 1) 9) := ⟨hwz ▸ HRM.out.put (o4 + i * 9) [.int .i64 78, .float .f64 0, .float .f64 0, .int .i64 0, .int .i64 0, .int .i64 0, .int .i64 0, .int .i64 0, .int .i64 0]⟩
   simp only [setL] at hwz
   rw [hwz]
   clear hwz h0 z0 h1 z1 h2 z2 h3 z3 h4 z4 h5 z5 h6 z6 h7 z7 h8 z8
   skip
   go_roundg (l.length - (i + 1))
   case measure => exact HM2.out.1
   case rel => exact ⟨i + 1, HM2.out.2.1, HM2.out.2.2, by first | rfl | rw [b3], HR2, HF2⟩
  ·
   have t5 : decide (i < l.length) = false := decide_eq_false hlt
   have hmx := HX.out.other HF.out (fun k hk h => by have := xjY h; have := HBG.out; have e : k = gn := hk; omega) (fun k hk h => by have := xjY h; have := HBG.out; have := HA5.out k hk; omega)
   have hd2 := HD.out.keep HS.out (by decide) HF.out
   have hdo := hd2.ownF
   replace HB := am (HB.out.trans (HF.out.xdM HB.out.size (fun k hk => by have := xjY hk; have := HBG.out; omega)))
   have hst := HST.out _ _ _ _ _ _ hmx
   unfold stepV at hst
   obtain ⟨⟨sd, se, sf⟩, sc, Z⟩ := SM
   simp only at hst
   have HST2 := am hst;have HMX := am hmx;have HDO := am hdo
   have HGB : xaA (w.heap.size ≤ gn ∧ gn < wr.heap.size) := ⟨by have h1 := HBG.out; have h2 := hmx.hF gn rfl; have h3 := HB4.out; have h4 := HZ1.out; omega⟩
   clear hst hmx hd2 hdo hk hi hlt HX HD HST HRM HNEW HDR
   go_upto_region 16 with (go_at_call 16; go_loud ((with_reducible refine (HST2.out).mono ?_); rintro z w8 ⟨rfl, hf, B1, d1, B2, d2, hm⟩; have HM := am hm; have HF8 := am (fun k hk => (hm.hF k hk).2); have HD := am (HDO.out.fr hf (fun k hk e => by have e2 : k = gn := e; subst e2; exact HDO.out.xeK HMX.out.k (by decide) hk)); replace HB := am (HB.out.trans (hf.xdM HB.out.size (fun k hk => by have e : k = gn := hk; have := HGB.out; omega))); have HZ8 := am hf.size; have HZW := am HB.out.size; clear hf hm))
   skip
   have hcd : ∀ k, own A5 k → k < wr.heap.size := HMX.out.xbY
   have HCD := am hcd;clear hcd HMX HDO
   go_upto_region 17 with (go_at_call 17; go_loud ((with_reducible refine (HFL.out _ _ _ _ _ _ _ _ _ _ HM.out).mono ?_); rintro z w9 ⟨Aa, ca, rfl, hs, hb⟩; have HSA := am hs; have HOA := am hs.xfB; replace HM := am (HM.out.below hb); replace HD := am (HD.out.below hb); have HZ9 := am hb.size; clear hs; replace HB := am (xaC HB.out hb); clear hb))
   go_upto_region 18 with (go_at_call 17; go_loud ((with_reducible refine (HFL.out _ _ _ _ _ _ _ _ _ _ HM.out).mono ?_); rintro z w10 ⟨Ab, cb, rfl, hs, hb⟩; have HSB := am hs; replace HSA := am (HSA.out.below hb); replace HM := am (HM.out.below hb); replace HD := am (HD.out.below hb); have HZA := am hb.size; clear hs; replace HB := am (xaC HB.out hb); clear hb))
   skip
   go_wp2_with fail
   go_loopg [15] lw.length (fun kq v15 w' => ∃ i : Nat, i ≤ lw.length ∧ kq + i = lw.length ∧ v15 = .int .i64 (i : Int) ∧ xaA (Room w' Aa 48 lw.length 3) ∧ xaA (Fr (own Aa) w10 w'))
   case atStart => exact ⟨0, Nat.zero_le _, Nat.add_zero _, rfl, ⟨room_of HSA.out (Nat.le_refl _)⟩, ⟨Fr.refl _ _⟩⟩
   case round =>
    obtain ⟨i, hi, hk, rfl, HRM, HF2⟩ := hrel
    by_cases hlt : i < lw.length
    ·
     have t5 : decide (i < lw.length) = true := decide_eq_true hlt
     have b3 := n1t (i := i) (by have := HLW.out; omega)
     obtain ⟨b, off, cur, hA, hbk, hsz⟩ := HRM.out (by omega)
     subst hA
     obtain ⟨v0, h0⟩ := xdZ hbk (off + i * 3) (by omega)
     obtain ⟨v1, h1⟩ := xdZ hbk (off + i * 3 + 1) (by omega)
     obtain ⟨v2, h2⟩ := xdZ hbk (off + i * 3 + 2) (by omega)
     have z0 := xaE hbk (off + i * 3)
     have z1 := xaE hbk (off + i * 3 + 1)
     have z2 := xaE hbk (off + i * 3 + 2)
     have HM2 : xaA (lw.length - (i + 1) < gk ∧ i + 1 ≤ lw.length ∧ lw.length - (i + 1) + (i + 1) = lw.length) := ⟨by omega⟩
     clear hk hi hbk hsz
     go_wp2_with fail
     skip
     obtain ⟨wz, hwz⟩ : ∃ wz, setL wr b (off + i * 3) [.int .i64 (-1), .float .f64 0, .int .i64 0] = wz := ⟨_, rfl⟩
     have HF3 := am (hwz ▸ xdG (G := own (some ⟨b, off, none⟩)) (w0 := w10) (Or.inl ⟨_, rfl, rfl⟩) [.int .i64 (-1), .float .f64 0, .int .i64 0] (off + i * 3) _ HF2.out)
     have HR2 : xaA (Room wz (some ⟨b, off, none⟩) 48 lw.length 3) := ⟨hwz ▸ HRM.out.put (off + i * 3) [.int .i64 (-1), .float .f64 0, .int .i64 0]⟩
     simp only [setL] at hwz
     rw [hwz]
     clear hwz h0 z0 h1 z1 h2 z2
     go_roundg (lw.length - (i + 1))
     case measure => exact HM2.out.1
     case rel => exact ⟨i + 1, HM2.out.2.1, HM2.out.2.2, by first | rfl | rw [b3], HR2, HF3⟩
    ·
     have t5 : decide (i < lw.length) = false := decide_eq_false hlt
     have hm2 := HM.out.other HF2.out (fun k hk h => by have h1 := HOA.out k h; have h2 := HF8.out k hk; omega) (fun k hk h => by have h1 := HOA.out k h; have h2 := HCD.out k hk; have h3 := HZ8.out; omega)
     have hsb2 := HSB.out.ownF.fr HF2.out (fun k hk h => by have h1 := HSB.out.xfB k hk; have h2 := HOA.out k h; omega)
     have hd2 := HD.out.keep HSA.out (by decide) HF2.out
     replace HB := am (HB.out.trans (HF2.out.xdM HB.out.size (fun k hk => by have h1 := HOA.out k hk; have h2 := HZW.out; omega)))
     clear HM HSB HD hk hi hlt HRM HF2 HSA;have HM := am hm2;have HSB := am hsb2;have HD := am hd2;clear hm2 hsb2 hd2
     go_upto_region 23 with (go_at_call 17; go_loud ((with_reducible refine (HFL.out _ _ _ _ _ _ _ _ _ _ HM.out).mono ?_); rintro z w11 ⟨Ac, cc, rfl, hs, hb⟩; have HSC := am hs; replace HSB := am (HSB.out.below hb); replace HD := am (HD.out.below hb); clear hs; replace HB := am (xaC HB.out hb); clear hb))
     skip
     go_wp2_with (first | (go_at_call 13; go_loud (first | ((with_reducible refine (same_c lw _ _ _ _ _ HSB.out.C (by have h := HD.out.C; rwa [List.length_map] at h) HLW.out).mono ?_); rintro z w30 ⟨rfl, hb⟩; replace HSB := am (HSB.out.below hb); replace HD := am (HD.out.below hb); replace HSC := am (HSC.out.below hb); replace HB := am (xaC HB.out hb); clear hb) | ((with_reducible refine (same_c lw _ _ _ _ _ HSC.out.C (by have h := HD.out.C; rwa [List.length_map] at h) HLW.out).mono ?_); rintro z w30 ⟨rfl, hb⟩; replace HSB := am (HSB.out.below hb); replace HD := am (HD.out.below hb); replace HSC := am (HSC.out.below hb); replace HB := am (xaC HB.out hb); clear hb))) | (go_at_call 9; go_loud ((with_reducible refine (xfH _ (HK.out.below HB.out)).mono ?_); rintro z w20 ⟨rfl, hb⟩; replace HB := am (xaC HB.out hb); clear hb)))
     skip
     go_ret
     exact ⟨rfl, HB.out⟩
theorem lent_all (hk : KT w) (hr : Kd.C k37 w A l.length l) (hbit : ∀ o ∈ l, o.f1 < 18446744073709551616 ∧ o.f2 < 18446744073709551616) : Calls Tryz.prog 4 #[.slice A l.length c] w fun e w' => e = .returned (.bool true) ∧ Below w.heap.size w w' := by
 by_cases hl : 60 < l.length
 ·
  have HK := am hk
  have HB := am (Below.refl w.heap.size w)
  have t1 : decide ((l.length : Int) > 60) = true := decide_eq_true (by omega)
  clear hk hl
  go_enter Tryz.func4, Tryz.ntmps4
  go_wp2_with (go_at_call 9; go_loud ((with_reducible refine (xfH _ (HK.out.below HB.out)).mono ?_); rintro z w20 ⟨rfl, hb⟩; replace HB := am (xaC HB.out hb); clear hb))
  go_ret
  exact ⟨rfl, HB.out⟩
 ·
  by_cases he : (chk l).1 = 0
  ·
   exact lent_ok l A c w hk hr hbit (by omega) he
  ·
   exact lent_bad l A c w hk hr hbit (by omega) he
end
end Go.Proofs.YtkabcgmegljebaaGreatDoor.D
