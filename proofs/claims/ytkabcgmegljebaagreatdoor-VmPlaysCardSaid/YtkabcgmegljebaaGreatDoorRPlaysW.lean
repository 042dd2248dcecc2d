/- The walk of the law VmPlays: it tells true. Condition: the table of kinds; the floats are floats, the numbers of 64 bits. -/
import Derived.Test.YtkabcgmegljebaaGreatDoorRGA
import Derived.Test.YtkabcgmegljebaaGreatDoorRDxD
import Derived.Test.YtkabcgmegljebaaGreatDoorRGU
set_option maxHeartbeats 8000000
set_option maxRecDepth 100000
set_option linter.unusedVariables false
set_option linter.unusedSimpArgs false
namespace Go.Proofs.YtkabcgmegljebaaGreatDoor.D
open Go.RowKit Go.Proofs.YtkabcgmegljebaaGreatDoorW.PrintWords Go.Proofs.YtkabcgmegljebaaGreatDoorW.PrintLast Go.Proofs.YtkabcgmegljebaaGreatDoorW.PrintMore
open Go.Proofs.YtkabcgmegljebaaGreatDoor.Q Go.Proofs.YtkabcgmegljebaaGreatDoor.H
section
variable (l : List S37) (S : List Int) (at_ : Int) (A B : Option Addr) (c d0 : Nat) (w : World)
theorem plays_bad (hk : KT w) (hr : Kd.C k37 w A l.length l) (hl : l.length ≤ 60) (he : (chk l).1 ≠ 0) : Calls Tryz.prog 5 #[.slice A l.length c, .slice B S.length d0, .int .i64 at_] w fun e w' => e = .returned (.bool true) ∧ Below w.heap.size w w' := by
 have HB := am (Below.refl w.heap.size w)
 have t1 : decide ((l.length : Int) > 60) = false := decide_eq_false (by omega)
 have HK := am hk;have HR := am hr
 have HDO := am (fun (w' : World) (hb : Below w.heap.size w w') => ofD_c l A c w' (Kd.xaQ hr hb) (by omega))
 have hnew := xmG (w := w) (A := A) (c := c) (l := l) hk hr (xjF l) he
 have hnd := fun (A' : Option Addr) (c' : Nat) (w' : World) h => newD_bad l A' c' w' h he
 have t2 : ((chk l).1 != 0) = true := bne_iff_ne.2 he
 have t3 : ((chk l).1 != (chk l).1) = false := bne_self_eq_false _
 have t4 : ((chk l).2.1 != (chk l).2.1) = false := bne_self_eq_false _
 simp only at hnew
 generalize (chk l).1 = e1 at *
 generalize (chk l).2.1 = a1 at *
 have HNEW := am hnew;have HND := am hnd;clear hk hr hl he hnew hnd
 go_enter Tryz.func5, Tryz.ntmps5
 go_upto_region 4 with (go_at_call 14; go_loud ((with_reducible refine (HNEW.out).mono ?_); rintro z w1 ⟨rfl, hb⟩; replace HB := am (xaC HB.out hb); clear hb))
 go_upto_region 5 with (first | (go_at_call 12; go_loud ((with_reducible refine (HDO.out _ HB.out).mono ?_); rintro z w2 ⟨A2, c2, rfl, hs, hb⟩; have HO := am hs.C; clear hs; replace HB := am (xaC HB.out hb); clear hb)) | (go_at_call 18; go_loud ((with_reducible refine (HND.out _ _ _ (by have h := HO.out; rwa [List.length_map] at h)).mono ?_); rintro z w3 ⟨rfl, hb⟩; replace HB := am (xaC HB.out hb); clear hb)) | ((with_reducible refine xaJ (N := 10) rfl ?_); refine bxv 10 #[.slice none 0 0, .int .i64 0, .slice none 0 0, .slice none 0 0, .bool false, .int .i64 0] 51 ?_; intro d hg w4 hbox hb; have Bd := am hbox; have HBd := HB; replace HB := am (xaC HB.out hb); have HGd := am hg; have HLd := am (xaM hbox); clear hb hbox hg; have cd_ := cz6 Bd))
 skip
 have hd0 : xaA (w.heap.size ≤ d) := ⟨by have := HGd.out; have := HBd.out.size; omega⟩
 clear HBd HGd HLd cd_
 obtain ⟨w5, hwz⟩ : ∃ w5, setL w4 d 0 [.slice none 0 0, .int .i64 0, .slice none 0 0, .slice none 0 0, .bool false, .int .i64 0] = w5 := ⟨_, rfl⟩
 replace Bd := am (hwz ▸ xbD (vs := [.slice none 0 0, .int .i64 0, .slice none 0 0, .slice none 0 0, .bool false, .int .i64 0]) Bd.out rfl)
 replace HB := am (hwz ▸ xaY hd0.out _ 0 _ HB.out)
 simp only [setL, Nat.reduceAdd] at hwz
 rw [hwz]
 clear hwz
 go_wp2_with (go_at_call 9; go_loud ((with_reducible refine (xfH _ (HK.out.below HB.out)).mono ?_); rintro z wk ⟨rfl, hb⟩; replace HB := am (xaC HB.out hb); clear hb))
 skip
 go_loopg [7, 13] 0 (fun kq v7 v13 w' => v7 = .pointer none ∧ v13 = .int .i64 0 ∧ xaA (Below w.heap.size w w'))
 case atStart => exact ⟨rfl, rfl, HB⟩
 case round =>
  obtain ⟨rfl, rfl, HB⟩ := hrel
  by_cases hz : 0 < S.length
  ·
   have t5 : decide (0 < S.length) = true := decide_eq_true hz
   have t6 : decide ((0 : Int) < (S.length : Int)) = true := decide_eq_true (by omega)
   clear hz
   go_wp2_with fail
   go_ret
   exact ⟨rfl, HB.out⟩
  ·
   have t5 : decide (0 < S.length) = false := decide_eq_false hz
   have t6 : decide ((0 : Int) < (S.length : Int)) = false := decide_eq_false (by omega)
   clear hz
   go_wp2_with fail
   go_ret
   exact ⟨rfl, HB.out⟩
theorem plays_ok (hk : KT w) (hr : Kd.C k37 w A l.length l) (hs : Kd.C (Kd.int .i64) w B S.length S) (hrg : ∀ x ∈ S, x ≤ 9223372036854775807) (hbit : ∀ o ∈ l, o.f1 < 18446744073709551616 ∧ o.f2 < 18446744073709551616) (hl : l.length ≤ 60) (he : (chk l).1 = 0) : Calls Tryz.prog 5 #[.slice A l.length c, .slice B S.length d0, .int .i64 at_] w fun e w' => e = .returned (.bool true) ∧ Below w.heap.size w w' := by
 have HB := am (Below.refl w.heap.size w)
 have t1 : decide ((l.length : Int) > 60) = false := decide_eq_false (by omega)
 have HK := am hk;have HR := am hr
 have HDO := am (fun (w' : World) (hb : Below w.heap.size w w') => ofD_c l A c w' (Kd.xaQ hr hb) (by omega))
 have hg := (xeZ he).1
 have hcw : CodeW l := ⟨xjG he, hbit⟩
 have hnew := new_ok (w := w) (A := A) (c := c) (l := l) hk hr (xjF l) he hg.len
 have hnd := fun (A' : Option Addr) (c' : Nat) (w' : World) h => newD_ok l A' c' w' h he
 have HG := am hg;have HCW := am hcw;have HS := am hs;have HRG := am hrg;have HNEW := am hnew;have HND := am hnd;clear hk hr hs hrg hbit hl he hnew hnd hg hcw
 go_enter Tryz.func5, Tryz.ntmps5
 go_upto_region 4 with (go_at_call 14; go_loud ((with_reducible refine (HNEW.out).mono ?_); rintro z w1 ⟨gn, A5, c5, rfl, hb, hx, ho⟩; have HX := am hx; have HA5 := am hx.xbY; have HGN := am (hx.hF gn rfl); clear hx ho; replace HB := am (xaC HB.out hb); clear hb))
 go_upto_region 5 with (first | (go_at_call 12; go_loud ((with_reducible refine (HDO.out _ HB.out).mono ?_); rintro z w2 ⟨A2, c2, rfl, hs, hb⟩; have HO := am (hs.ownF.low HB.out.size); have HO2 := am hs.xfB; replace HX := am (HX.out.below hb); have HZ2 := am hb.size; clear hs; replace HB := am (xaC HB.out hb); clear hb)) | (go_at_call 18; go_loud ((with_reducible refine (HND.out _ _ _ (by have h := HO.out.C; rwa [List.length_map] at h)).mono ?_); rintro z w3 ⟨rfl, hb⟩; replace HX := am (HX.out.below hb); replace HO := am (HO.out.below hb); have HZ3 := am hb.size; replace HB := am (xaC HB.out hb); clear hb)) | ((with_reducible refine xaJ (N := 10) rfl ?_); refine bxv 10 #[.slice none 0 0, .int .i64 0, .slice none 0 0, .slice none 0 0, .bool false, .int .i64 0] 51 ?_; intro d hg w4 hbox hb; have Bd := am hbox; have HBd := HB; replace HB := am (xaC HB.out hb); have HGd := am hg; have HLd := am (xaM hbox); have HBX := am hb; clear hb hbox hg; have cd_ := cz6 Bd))
 skip
 have hd0 : xaA (w.heap.size ≤ d ∧ w3.heap.size ≤ d) := ⟨by have := HGd.out; have := HBd.out.size; omega⟩
 have hd1 := HLd;clear HBd HGd HLd cd_
 have HBY : xaA (Below w3.heap.size w3 (setL w4 d 0 [.slice A2 l.length c2, .int .i64 0, .slice none 0 0, .slice none 0 0, .bool false, .int .i64 0])) := ⟨xaY hd0.out.2 _ 0 _ HBX.out⟩
 obtain ⟨w5, hwz⟩ : ∃ w5, setL w4 d 0 [.slice A2 l.length c2, .int .i64 0, .slice none 0 0, .slice none 0 0, .bool false, .int .i64 0] = w5 := ⟨_, rfl⟩
 replace Bd := am (hwz ▸ xbD (vs := [.slice A2 l.length c2, .int .i64 0, .slice none 0 0, .slice none 0 0, .bool false, .int .i64 0]) Bd.out rfl)
 replace HB := am (hwz ▸ xaY hd0.out.1 _ 0 _ HB.out)
 rw [hwz] at HBY
 simp only [setL, Nat.reduceAdd] at hwz
 rw [hwz]
 clear hwz
 replace HX := am (HX.out.below HBY.out)
 replace HO := am (HO.out.below HBY.out)
 have HBO : xaA (Bo w.heap.size w5 d gn (fun k => k = gn) (fun _ => False) A5 c5 none 0 none 0 A2 c2 none 0 none 0 (st0 l) (st0 l)) := ⟨HX.out, ⟨HO.out, Sl.nil _ _ _ _ _, Sl.nil _ _ _ _ _, fun k hk => hk.elim, HB.out.size, fun k _ hk => hk⟩, ⟨fun e => by have e2 : d = gn := e; have h1 := HGN.out; have h2 := hd0.out; have h3 := HZ2.out; have h4 := HZ3.out; omega, fun h => h, xaM Bd.out, hd0.out.1⟩, fun k _ hk => hk, fun k hk => ⟨fun h => h, fun e => by have h1 := HA5.out k hk; have h2 := hd0.out; have h3 := HZ2.out; have h4 := HZ3.out; omega⟩, fun k hk => ⟨fun e => by have e2 : k = gn := e; have h1 := HO2.out k hk; have h2 := HGN.out; omega, fun e => by have h1 := HO2.out k hk; have h2 := hd0.out; have h4 := HZ3.out; omega⟩⟩
 have HOK : xaA (OkM l (st0 l)) := ⟨⟨rfl, inv0 l, fun f hf => (by cases hf), fun _ => rfl⟩⟩
 clear HX HO HBX HBY hd0 hd1 HGN HA5 HO2 HZ2 HZ3 HNEW HND HDO
 go_upto_region 7 with (go_at_call 9; go_loud ((with_reducible refine (xfH _ (HK.out.below HB.out)).mono ?_); rintro z wk ⟨rfl, hb⟩; replace HBO := am (HBO.out.below hb); replace Bd := am (xaD Bd.out hb); replace HB := am (xaC HB.out hb); clear hb))
 skip
 go_wp2_with fail
 go_loopg [7, 13] 80 (fun kq v7 v13 w' => ∃ (i g2 : Nat) (F F2 : Nat → Prop) (Af : Option Addr) (cf : Nat) (Am : Option Addr) (cm : Nat) (Bf : Option Addr) (df : Nat) (Bm : Option Addr) (dm : Nat) (s : St), kq = 80 - i ∧ i ≤ 80 ∧ v7 = .pointer (some ⟨g2, 0, none⟩) ∧ v13 = .int .i64 (i : Int) ∧ xaA (Bo w.heap.size w' d g2 F F2 A5 c5 Af cf Am cm A2 c2 Bf df Bm dm s s) ∧ xaA (w'.heap[d]? = some (.cells #[.slice A2 s.code.length c2, .int .i64 s.loc, .slice Bf s.flows.length df, .slice Bm s.marks.length dm, .bool s.ended, .int .i64 s.fault] 51 (0, 0))) ∧ xaA (Below w.heap.size w w') ∧ xaA (OkM l s))
 case atStart => exact ⟨0, gn, _, _, none, 0, none, 0, none, 0, none, 0, st0 l, rfl, by omega, rfl, rfl, HBO, Bd, HB, HOK⟩
 case round =>
  clear HBO Bd HB HOK
  obtain ⟨i, g2, F, F2, Af, cf, Am, cm, Bf, df, Bm, dm, s, hkq, hi80, rfl, rfl, HBO, Bd, HB, HOK⟩ := hrel
  by_cases hin : i < S.length ∧ i < 80
  ·
   obtain ⟨hi1, hi2⟩ := hin
   have t5 : decide (i < S.length) = true := decide_eq_true hi1
   have t6 : decide ((i : Int) < 80) = true := decide_eq_true (by omega)
   have t7 : decide (i < 80) = true := decide_eq_true hi2
   have b3 := n1t (i := i) (by omega)
   have HM2 : xaA (80 - (i + 1) < gk ∧ i + 1 ≤ 80 ∧ i < S.length) := ⟨by omega⟩
   clear hkq hi80 hi2
   go_upto_if 77 with fail
   skip
   go_cut [7] from 61 to 150 (fun v7 w' => ∃ (g3 : Nat) (F3 : Nat → Prop) (A3 : Option Addr) (c3 : Nat) (A4 : Option Addr) (c4 : Nat), v7 = .pointer (some ⟨g3, 0, none⟩) ∧ xaA (Bo w.heap.size w' d g3 F3 F2 A5 c5 A3 c3 A4 c4 A2 c2 Bf df Bm dm s s) ∧ xaA (w'.heap[d]? = some (.cells #[.slice A2 s.code.length c2, .int .i64 s.loc, .slice Bf s.flows.length df, .slice Bm s.marks.length dm, .bool s.ended, .int .i64 s.fault] 51 (0, 0))) ∧ xaA (Below w.heap.size w w'))
   case first =>
    by_cases hq : (i : Int) = at_
    ·
     have t8 : ((i : Int) == at_) = true := beq_iff_eq.2 hq
     clear hq
     go_wp2_with (go_at_call 19; go_loud ((with_reducible refine (copy_ok HBO.out.m HOK.out.inv).mono ?_); rintro z wq ⟨g3, A3, c3, A4, c4, rfl, hb, hm⟩; have HBO2 := am (HBO.out.copy hb hm); replace Bd := am (xaD Bd.out hb); clear hm; replace HB := am (xaC HB.out hb); clear hb))
     skip
     go_meet
     case rel => exact ⟨g3, _, A3, c3, A4, c4, rfl, HBO2, Bd, HB⟩
    ·
     have t8 : ((i : Int) == at_) = false := beq_eq_false_iff_ne.2 hq
     clear hq
     go_wp2_with fail
     go_meet
     case rel => exact ⟨g2, F, Af, cf, Am, cm, rfl, HBO, Bd, HB⟩
   case rest =>
    clear HBO Bd HB
    obtain ⟨g3, F3, A3, c3, A4, c4, rfl, HBO, Bd, HB⟩ := hcut
    obtain ⟨ad, e, hx⟩ := at_i (Kd.xaQ HS.out HB.out) i hi1
    subst e
    have HADB : xaA (∀ w' : World, Below w.heap.size w w' → w'.cell? (ad.add i) = some (.int .i64 (S.getD i 0))) := ⟨fun w' hb => by obtain ⟨ad2, e, h⟩ := at_i (Kd.xaQ HS.out hb) i hi1; injection e with e; subst e; exact h⟩
    have hxr : S.getD i 0 ≤ 9223372036854775807 := by
     rw [List.getD_eq_getElem?_getD, List.getElem?_eq_getElem hi1]
     exact HRG.out _ (List.getElem_mem hi1)
    generalize S.getD i 0 = x at *
    have hstp := step_ok (fxs := fixF) HBO.out.m (by rw [HOK.out.code]; exact HG.out) HOK.out.inv x hxr
    have hsd := fun (w' : World) (F' : Nat → Prop) B1 d1 B2 d2 (h : Dm w' w.heap.size F' A2 c2 B1 d1 B2 d2 s) => stepD_c h HOK.out HG.out HCW.out x hxr
    have HOK2 := am (HOK.out.step HG.out HCW.out x)
    unfold mV at hsd
    generalize stepM fixF s x = SM at hstp hsd HOK2
    obtain ⟨⟨sd, se, sf⟩, sc, Z⟩ := SM
    unfold stepV at hstp
    simp only at hstp hsd HOK2
    have HSTP := am hstp;have HSD := am hsd;clear hstp hsd hxr
    go_upto_region 15 with (first | (go_at_call 16; go_loud ((with_reducible refine (HSTP.out).mono ?_); rintro z w6 ⟨rfl, hf, A6, c6, A7, c7, hm⟩; have HBO2 := am (HBO.out.prog hf hm); have HPB : xaA (∀ k, F2 k → k < w6.heap.size) := ⟨fun k hk => Nat.lt_of_lt_of_le (HBO.out.dc.hF k hk).2 hf.size⟩; replace Bd := am (hf.blk Bd.out HBO.out.nd.1); replace HB := am (HB.out.trans (hf.xdM HB.out.size (fun k hk => (HBO.out.m.hF k hk).1))); clear hf hm)) | ((with_reducible refine xaJ (N := 14) rfl ?_); refine bxv 14 #[.int .i64 0, .bool false, .int .i64 0] 43 ?_; intro p hg w7 hbox hb; have Bp := am hbox; replace Bd := am (xaD Bd.out hb); have HBp := HB; replace HB := am (xaC HB.out hb); have HGp := am hg; have HLp := am (xaM hbox); have HBX := am hb; clear hb hbox hg; have cp_ := cz3 Bp))
    skip
    have hp0 : xaA (w6.heap.size ≤ p ∧ w.heap.size ≤ p) := ⟨by have := HGp.out; have := HBp.out.size; omega⟩
    have HBY : xaA (Below w6.heap.size w6 (setL w7 p 0 [.int .i64 sd, .bool se, .int .i64 sf])) := ⟨xaY hp0.out.1 _ 0 _ HBX.out⟩
    have hdp : d ≠ p := by have h1 := HBO2.out.nd.2.2.1; have h2 := hp0.out; omega
    clear cp_
    obtain ⟨w8, hwz⟩ : ∃ w8, setL w7 p 0 [.int .i64 sd, .bool se, .int .i64 sf] = w8 := ⟨_, rfl⟩
    replace Bp := am (hwz ▸ xbD (vs := [.int .i64 sd, .bool se, .int .i64 sf]) Bp.out rfl)
    replace HB := am (hwz ▸ xaY hp0.out.2 _ 0 _ HB.out)
    rw [hwz] at HBY
    replace Bd := am (hwz ▸ (xaW hdp [.int .i64 sd, .bool se, .int .i64 sf] 0 w7).trans Bd.out)
    simp only [setL, Nat.reduceAdd] at hwz
    rw [hwz]
    clear hwz
    replace HBO := am (HBO2.out.below HBY.out)
    have HPF : xaA (¬ F2 p) := ⟨fun h => by have h1 := HPB.out p h; have h2 := hp0.out; omega⟩
    clear HBO2 HBY HBX HBp HGp HLp HSTP hx HPB
    generalize hF9 : Gr F3 _ w6.heap.size = F3' at HBO
    clear hF9;have hx := HADB.out _ HB.out
    skip
    have hxF : ¬ F2 (ad.add i).block := fun h => by have h1 := clt (HADB.out w (Below.refl _ _)); have h2 := (HBO.out.dc.hF _ h).1; omega
    have hS : ∀ w' : World, Fr F2 w8 w' → w'.cell? ⟨d, 0, none⟩ = some (.slice A2 s.code.length c2) ∧ w'.cell? ⟨d, 1, none⟩ = some (.int .i64 s.loc) ∧ w'.cell? ⟨d, 2, none⟩ = some (.slice Bf s.flows.length df) ∧ w'.cell? ⟨d, 3, none⟩ = some (.slice Bm s.marks.length dm) ∧ w'.cell? ⟨d, 4, none⟩ = some (.bool s.ended) ∧ w'.cell? ⟨d, 5, none⟩ = some (.int .i64 s.fault) ∧ w'.cell? (ad.add i) = some (.int .i64 x) := fun w' hf => ⟨(xaB (hf.blk Bd.out HBO.out.nd.2.1) 0).trans rfl, (xaB (hf.blk Bd.out HBO.out.nd.2.1) 1).trans rfl, (xaB (hf.blk Bd.out HBO.out.nd.2.1) 2).trans rfl, (xaB (hf.blk Bd.out HBO.out.nd.2.1) 3).trans rfl, (xaB (hf.blk Bd.out HBO.out.nd.2.1) 4).trans rfl, (xaB (hf.blk Bd.out HBO.out.nd.2.1) 5).trans rfl, Fr.cell hf hx hxF⟩
    refine xcA ?_
    refine xbL (n := 15) (S := fun w' => w'.cell? ⟨d, 0, none⟩ = some (.slice A2 s.code.length c2) ∧ w'.cell? ⟨d, 1, none⟩ = some (.int .i64 s.loc) ∧ w'.cell? ⟨d, 2, none⟩ = some (.slice Bf s.flows.length df) ∧ w'.cell? ⟨d, 3, none⟩ = some (.slice Bm s.marks.length dm) ∧ w'.cell? ⟨d, 4, none⟩ = some (.bool s.ended) ∧ w'.cell? ⟨d, 5, none⟩ = some (.int .i64 s.fault) ∧ w'.cell? (ad.add i) = some (.int .i64 x)) (ds := [12, 13]) #[false, false, false, false, false, false, false, false, false, false, false, false, false, false, false] (by kernel_rfl) rfl rfl (hS _ ((Fr.refl _ _).below (xaK (Below.refl _ _)))) (fun hHeld => ?_)
    have J := J5.start (Z := Z) HBO.out.dc (xaK (Below.refl w8.heap.size w8))
    generalize w8.drew = wz at *
    refine rT 0 ?_
    refine rP 1 ?_
    refine rP 2 ?_
    refine rP 3 ?_
    refine rT 4 ?_
    clear hHeld
    refine join_ (σ := Nat × Nat × Option Addr × Nat × Option Addr × Nat) 3 #[true, true, true, true, true, true, true, true, true, true, true, true, false, false, false] (fun q => [(16, .pointer (some ⟨q.1, 0, none⟩)), (17, .pointer (some ⟨q.2.1, 0, none⟩)), (97, .tuple #[(.agg #[.slice A2 Z.code.length c2, .int .i64 Z.loc, .slice q.2.2.1 Z.flows.length q.2.2.2.1, .slice q.2.2.2.2.1 Z.marks.length q.2.2.2.2.2, .bool Z.ended, .int .i64 Z.fault]), (.agg #[.int .i64 sd, .bool se, .int .i64 sf]), .int .i64 sc]), (91, .tuple #[(.agg #[.slice A2 Z.code.length c2, .int .i64 Z.loc, .slice q.2.2.1 Z.flows.length q.2.2.2.1, .slice q.2.2.2.2.1 Z.marks.length q.2.2.2.2.2, .bool Z.ended, .int .i64 Z.fault]), (.agg #[.int .i64 sd, .bool se, .int .i64 sf]), .int .i64 sc]), (98, (.agg #[.slice A2 Z.code.length c2, .int .i64 Z.loc, .slice q.2.2.1 Z.flows.length q.2.2.2.1, .slice q.2.2.2.2.1 Z.marks.length q.2.2.2.2.2, .bool Z.ended, .int .i64 Z.fault])), (99, (.agg #[.int .i64 sd, .bool se, .int .i64 sf])), (100, .int .i64 sc)]) (fun q w' => J5 w.heap.size w8 w' F2 A2 c2 Bf df Bm dm s Z (some q.1) (some q.2.1) (some q.2.2)) ?_ (fun hcont => ?_)
    rotate_left
    ·
     refine three_ (i := 5) (Ni := some 97) (j := 10) (Nj := some 16) (k := 11) (Nk := some 17) #[true, true, true, true, true, true, false, false, false, false, false, false, false, false, false] #[true, true, true, true, true, false, false, false, false, false, true, false, false, false, false] #[true, true, true, true, true, false, false, false, false, false, false, true, false, false, false] rfl rfl rfl rfl rfl rfl (by kernel_rfl) (by decide) (by decide) (by decide) (fun K hK => ?_) (fun K hK => ?_) (fun K hK => ?_)
     ·
      refine goes_ Tryz.func20 (by kernel_rfl) rfl #[(.agg #[.slice A2 s.code.length c2, .int .i64 s.loc, .slice Bf s.flows.length df, .slice Bm s.marks.length dm, .bool s.ended, .int .i64 s.fault]), .int .i64 x] (by rfl) rfl rfl (by (try simp only [List.map_toArray, List.map_cons, List.map_nil]); first | done | rfl) ?_
      with_reducible refine (HSD.out _ _ _ _ _ _ (J.nc rfl)).mono ?_
      rintro e u ⟨B3, d3, B4, d4, rfl, hd, hf⟩
      refine ⟨_, rfl, ?_⟩
      have J' := J.c hf hd
      refine hK.out _ _ (hS _ J'.fr) (fun hHeld => ?_)
      clear hK K hHeld
      refine rP 6 ?_
      refine rP 7 ?_
      refine rP 8 ?_
      refine rP 9 ?_
      refine two_ (i := 10) (Ni := some 16) (j := 11) (Nj := some 17) #[true, true, true, true, true, true, true, true, true, true, true, false, false, false, false] #[true, true, true, true, true, true, true, true, true, true, false, true, false, false, false] rfl rfl rfl rfl (by kernel_rfl) (by decide) (by decide) (fun K hK => ?_) (fun K hK => ?_)
      ·
       refine xbP (w1 := ?_) (v := ?_) (by rfl) rfl ?_ ?_
       rotate_left 2
       ·
        go_simp
        constructor
        ·
         rfl
        ·
         rfl
       have J'' := J'.a16
       try simp only [World.size_alloc] at J''
       refine hK.out _ _ (hS _ J''.fr) (fun hHeld => ?_)
       clear hK K hHeld
       refine rO 11 (fun K hK => ?_)
       refine xbP (w1 := ?_) (v := ?_) (by rfl) rfl ?_ ?_
       rotate_left 2
       ·
        go_simp
        constructor
        ·
         rfl
        ·
         rfl
       have J''' := J''.a17
       try simp only [World.size_alloc] at J'''
       refine hK.out _ _ (hS _ J'''.fr) (fun hHeld => ?_)
       clear hK K hHeld
       exact norm_ (by simp only [xdK, Act.put, List.setIfInBounds_toArray, List.set_cons_zero, List.set_cons_succ, World.size_alloc]; rfl) (hcont ⟨_, _, _, _, _, _⟩ _ J''')
      ·
       refine xbP (w1 := ?_) (v := ?_) (by rfl) rfl ?_ ?_
       rotate_left 2
       ·
        go_simp
        constructor
        ·
         rfl
        ·
         rfl
       have J'' := J'.a17
       try simp only [World.size_alloc] at J''
       refine hK.out _ _ (hS _ J''.fr) (fun hHeld => ?_)
       clear hK K hHeld
       refine rO 10 (fun K hK => ?_)
       refine xbP (w1 := ?_) (v := ?_) (by rfl) rfl ?_ ?_
       rotate_left 2
       ·
        go_simp
        constructor
        ·
         rfl
        ·
         rfl
       have J''' := J''.a16
       try simp only [World.size_alloc] at J'''
       refine hK.out _ _ (hS _ J'''.fr) (fun hHeld => ?_)
       clear hK K hHeld
       exact norm_ (by simp only [xdK, Act.put, List.setIfInBounds_toArray, List.set_cons_zero, List.set_cons_succ, World.size_alloc]; rfl) (hcont ⟨_, _, _, _, _, _⟩ _ J''')
     ·
      refine xbP (w1 := ?_) (v := ?_) (by rfl) rfl ?_ ?_
      rotate_left 2
      ·
       go_simp
       constructor
       ·
        rfl
       ·
        rfl
      have J' := J.a16
      try simp only [World.size_alloc] at J'
      refine hK.out _ _ (hS _ J'.fr) (fun hHeld => ?_)
      clear hK K hHeld
      refine two_ (i := 5) (Ni := some 97) (j := 11) (Nj := some 17) #[true, true, true, true, true, true, false, false, false, false, true, false, false, false, false] #[true, true, true, true, true, false, false, false, false, false, true, true, false, false, false] rfl rfl rfl rfl (by kernel_rfl) (by decide) (by decide) (fun K hK => ?_) (fun K hK => ?_)
      ·
       refine goes_ Tryz.func20 (by kernel_rfl) rfl #[(.agg #[.slice A2 s.code.length c2, .int .i64 s.loc, .slice Bf s.flows.length df, .slice Bm s.marks.length dm, .bool s.ended, .int .i64 s.fault]), .int .i64 x] (by rfl) rfl rfl (by (try simp only [List.map_toArray, List.map_cons, List.map_nil]); first | done | rfl) ?_
       with_reducible refine (HSD.out _ _ _ _ _ _ (J'.nc rfl)).mono ?_
       rintro e u ⟨B3, d3, B4, d4, rfl, hd, hf⟩
       refine ⟨_, rfl, ?_⟩
       have J'' := J'.c hf hd
       refine hK.out _ _ (hS _ J''.fr) (fun hHeld => ?_)
       clear hK K hHeld
       refine rP 6 ?_
       refine rP 7 ?_
       refine rP 8 ?_
       refine rP 9 ?_
       refine rO 11 (fun K hK => ?_)
       refine xbP (w1 := ?_) (v := ?_) (by rfl) rfl ?_ ?_
       rotate_left 2
       ·
        go_simp
        constructor
        ·
         rfl
        ·
         rfl
       have J''' := J''.a17
       try simp only [World.size_alloc] at J'''
       refine hK.out _ _ (hS _ J'''.fr) (fun hHeld => ?_)
       clear hK K hHeld
       exact norm_ (by simp only [xdK, Act.put, List.setIfInBounds_toArray, List.set_cons_zero, List.set_cons_succ, World.size_alloc]; rfl) (hcont ⟨_, _, _, _, _, _⟩ _ J''')
      ·
       refine xbP (w1 := ?_) (v := ?_) (by rfl) rfl ?_ ?_
       rotate_left 2
       ·
        go_simp
        constructor
        ·
         rfl
        ·
         rfl
       have J'' := J'.a17
       try simp only [World.size_alloc] at J''
       refine hK.out _ _ (hS _ J''.fr) (fun hHeld => ?_)
       clear hK K hHeld
       refine rO 5 (fun K hK => ?_)
       refine goes_ Tryz.func20 (by kernel_rfl) rfl #[(.agg #[.slice A2 s.code.length c2, .int .i64 s.loc, .slice Bf s.flows.length df, .slice Bm s.marks.length dm, .bool s.ended, .int .i64 s.fault]), .int .i64 x] (by rfl) rfl rfl (by (try simp only [List.map_toArray, List.map_cons, List.map_nil]); first | done | rfl) ?_
       with_reducible refine (HSD.out _ _ _ _ _ _ (J''.nc rfl)).mono ?_
       rintro e u ⟨B3, d3, B4, d4, rfl, hd, hf⟩
       refine ⟨_, rfl, ?_⟩
       have J''' := J''.c hf hd
       refine hK.out _ _ (hS _ J'''.fr) (fun hHeld => ?_)
       clear hK K hHeld
       refine rP 6 ?_
       refine rP 7 ?_
       refine rP 8 ?_
       refine rP 9 ?_
       exact norm_ (by simp only [xdK, Act.put, List.setIfInBounds_toArray, List.set_cons_zero, List.set_cons_succ, World.size_alloc]; rfl) (hcont ⟨_, _, _, _, _, _⟩ _ J''')
     ·
      refine xbP (w1 := ?_) (v := ?_) (by rfl) rfl ?_ ?_
      rotate_left 2
      ·
       go_simp
       constructor
       ·
        rfl
       ·
        rfl
      have J' := J.a17
      try simp only [World.size_alloc] at J'
      refine hK.out _ _ (hS _ J'.fr) (fun hHeld => ?_)
      clear hK K hHeld
      refine two_ (i := 5) (Ni := some 97) (j := 10) (Nj := some 16) #[true, true, true, true, true, true, false, false, false, false, false, true, false, false, false] #[true, true, true, true, true, false, false, false, false, false, true, true, false, false, false] rfl rfl rfl rfl (by kernel_rfl) (by decide) (by decide) (fun K hK => ?_) (fun K hK => ?_)
      ·
       refine goes_ Tryz.func20 (by kernel_rfl) rfl #[(.agg #[.slice A2 s.code.length c2, .int .i64 s.loc, .slice Bf s.flows.length df, .slice Bm s.marks.length dm, .bool s.ended, .int .i64 s.fault]), .int .i64 x] (by rfl) rfl rfl (by (try simp only [List.map_toArray, List.map_cons, List.map_nil]); first | done | rfl) ?_
       with_reducible refine (HSD.out _ _ _ _ _ _ (J'.nc rfl)).mono ?_
       rintro e u ⟨B3, d3, B4, d4, rfl, hd, hf⟩
       refine ⟨_, rfl, ?_⟩
       have J'' := J'.c hf hd
       refine hK.out _ _ (hS _ J''.fr) (fun hHeld => ?_)
       clear hK K hHeld
       refine rP 6 ?_
       refine rP 7 ?_
       refine rP 8 ?_
       refine rP 9 ?_
       refine rO 10 (fun K hK => ?_)
       refine xbP (w1 := ?_) (v := ?_) (by rfl) rfl ?_ ?_
       rotate_left 2
       ·
        go_simp
        constructor
        ·
         rfl
        ·
         rfl
       have J''' := J''.a16
       try simp only [World.size_alloc] at J'''
       refine hK.out _ _ (hS _ J'''.fr) (fun hHeld => ?_)
       clear hK K hHeld
       exact norm_ (by simp only [xdK, Act.put, List.setIfInBounds_toArray, List.set_cons_zero, List.set_cons_succ, World.size_alloc]; rfl) (hcont ⟨_, _, _, _, _, _⟩ _ J''')
      ·
       refine xbP (w1 := ?_) (v := ?_) (by rfl) rfl ?_ ?_
       rotate_left 2
       ·
        go_simp
        constructor
        ·
         rfl
        ·
         rfl
       have J'' := J'.a16
       try simp only [World.size_alloc] at J''
       refine hK.out _ _ (hS _ J''.fr) (fun hHeld => ?_)
       clear hK K hHeld
       refine rO 5 (fun K hK => ?_)
       refine goes_ Tryz.func20 (by kernel_rfl) rfl #[(.agg #[.slice A2 s.code.length c2, .int .i64 s.loc, .slice Bf s.flows.length df, .slice Bm s.marks.length dm, .bool s.ended, .int .i64 s.fault]), .int .i64 x] (by rfl) rfl rfl (by (try simp only [List.map_toArray, List.map_cons, List.map_nil]); first | done | rfl) ?_
       with_reducible refine (HSD.out _ _ _ _ _ _ (J''.nc rfl)).mono ?_
       rintro e u ⟨B3, d3, B4, d4, rfl, hd, hf⟩
       refine ⟨_, rfl, ?_⟩
       have J''' := J''.c hf hd
       refine hK.out _ _ (hS _ J'''.fr) (fun hHeld => ?_)
       clear hK K hHeld
       refine rP 6 ?_
       refine rP 7 ?_
       refine rP 8 ?_
       refine rP 9 ?_
       exact norm_ (by simp only [xdK, Act.put, List.setIfInBounds_toArray, List.set_cons_zero, List.set_cons_succ, World.size_alloc]; rfl) (hcont ⟨_, _, _, _, _, _⟩ _ J''')
    rintro ⟨ga, gb, B3, d3, B4, d4⟩ w9 J
    refine rN (a' := _) ?_ (by simp only [xdK, Act.put, List.setIfInBounds_toArray, List.set_cons_zero, List.set_cons_succ]; rfl)
    replace J : J5 w.heap.size w8 w9 F2 A2 c2 Bf df Bm dm s Z (some ga) (some gb) (some (B3, d3, B4, d4)) := J
    skip
    obtain ⟨hga, hBa⟩ := J.a ga rfl
    obtain ⟨hgb, hBb⟩ := J.b gb rfl
    have hne := J.ne ga gb rfl rfl;have Bga := am hBa;have Bgb := am hBb;have HF9 := am J.fr;have hd8 := HBO.out.nd.2.2.1;have hAc := HBO.out.m.xbY
    have hFm := fun k hk => (HBO.out.m.hF k hk).2
    have HGA : xaA (d ≠ ga ∧ d ≠ gb ∧ p ≠ ga ∧ p ≠ gb ∧ ga ≠ gb ∧ w.heap.size ≤ ga ∧ w.heap.size ≤ gb) := ⟨by have h1 := xaM Bp.out; have h2 := HB.out.size; exact ⟨by omega, by omega, by omega, by omega, hne, by omega, by omega⟩⟩
    replace HB := am (HB.out.trans (J.fr.xdM HB.out.size (fun k hk => (HBO.out.dc.hF k hk).1)))
    have HBN := am (HBO.out.doc J.fr (J.yc _ _ _ _ rfl))
    have HFA : xaA ((¬ F3' ga ∧ ¬ F3' gb) ∧ ∀ k, own A5 k → k ≠ ga ∧ k ≠ gb) := ⟨⟨⟨fun h => by have := hFm _ h; omega, fun h => by have := hFm _ h; omega⟩, fun k hk => by have := hAc k hk; omega⟩⟩
    replace Bd := am (HF9.out.blk Bd.out HBO.out.nd.2.1)
    replace Bp := am (HF9.out.blk Bp.out HPF.out)
    clear hga hBa hgb hBb hne J hS hx hd8 hAc hFm HBO HF9 hxF HPF HSD;have cga_ := cz6 Bga
    refine rL 12 (fun K hK => ?_)
    refine skip_ (w1 := ?_) (by rfl) rfl ?_ ?_
    rotate_left
    ·
     go_simp
     rfl
    refine hK.out _ _ ?_
    clear hK K cga_
    obtain ⟨w10, hwz⟩ : ∃ w10, setL w9 ga 0 [.slice A2 Z.code.length c2, .int .i64 Z.loc, .slice B3 Z.flows.length d3, .slice B4 Z.marks.length d4, .bool Z.ended, .int .i64 Z.fault] = w10 := ⟨_, rfl⟩
    replace HBN := am (hwz ▸ HBN.out.setg (vs := [.slice A2 Z.code.length c2, .int .i64 Z.loc, .slice B3 Z.flows.length d3, .slice B4 Z.marks.length d4, .bool Z.ended, .int .i64 Z.fault]) Bga.out (by decide) (by decide) (by decide) (HFA.out.1.1) (fun k hk => (HFA.out.2 k hk).1) 0)
    replace HB := am (hwz ▸ xaY (HGA.out.2.2.2.2.2.1) [.slice A2 Z.code.length c2, .int .i64 Z.loc, .slice B3 Z.flows.length d3, .slice B4 Z.marks.length d4, .bool Z.ended, .int .i64 Z.fault] 0 _ HB.out)
    replace Bd := am (hwz ▸ (xaW (HGA.out.1) [.slice A2 Z.code.length c2, .int .i64 Z.loc, .slice B3 Z.flows.length d3, .slice B4 Z.marks.length d4, .bool Z.ended, .int .i64 Z.fault] 0 w9).trans Bd.out)
    replace Bp := am (hwz ▸ (xaW (HGA.out.2.2.1) [.slice A2 Z.code.length c2, .int .i64 Z.loc, .slice B3 Z.flows.length d3, .slice B4 Z.marks.length d4, .bool Z.ended, .int .i64 Z.fault] 0 w9).trans Bp.out)
    replace Bgb := am (hwz ▸ (xaW (HGA.out.2.2.2.2.1.symm) [.slice A2 Z.code.length c2, .int .i64 Z.loc, .slice B3 Z.flows.length d3, .slice B4 Z.marks.length d4, .bool Z.ended, .int .i64 Z.fault] 0 w9).trans Bgb.out)
    replace Bga := am (hwz ▸ xbD (vs := [.slice A2 Z.code.length c2, .int .i64 Z.loc, .slice B3 Z.flows.length d3, .slice B4 Z.marks.length d4, .bool Z.ended, .int .i64 Z.fault]) Bga.out rfl)
    simp only [setL, Nat.reduceAdd] at hwz
    rw [hwz]
    clear hwz;have cgb_ := cz3 Bgb
    refine rL 13 (fun K hK => ?_)
    refine skip_ (w1 := ?_) (by rfl) rfl ?_ ?_
    rotate_left
    ·
     go_simp
     rfl
    refine hK.out _ _ ?_
    clear hK K cgb_
    obtain ⟨w11, hwz⟩ : ∃ w11, setL w10 gb 0 [.int .i64 sd, .bool se, .int .i64 sf] = w11 := ⟨_, rfl⟩
    replace HBN := am (hwz ▸ HBN.out.setg (vs := [.int .i64 sd, .bool se, .int .i64 sf]) Bgb.out (by decide) (by decide) (by decide) (HFA.out.1.2) (fun k hk => (HFA.out.2 k hk).2) 0)
    replace HB := am (hwz ▸ xaY (HGA.out.2.2.2.2.2.2) [.int .i64 sd, .bool se, .int .i64 sf] 0 _ HB.out)
    replace Bd := am (hwz ▸ (xaW (HGA.out.2.1) [.int .i64 sd, .bool se, .int .i64 sf] 0 w10).trans Bd.out)
    replace Bp := am (hwz ▸ (xaW (HGA.out.2.2.2.1) [.int .i64 sd, .bool se, .int .i64 sf] 0 w10).trans Bp.out)
    replace Bga := am (hwz ▸ (xaW (HGA.out.2.2.2.2.1) [.int .i64 sd, .bool se, .int .i64 sf] 0 w10).trans Bga.out)
    replace Bgb := am (hwz ▸ xbD (vs := [.int .i64 sd, .bool se, .int .i64 sf]) Bgb.out rfl)
    simp only [setL, Nat.reduceAdd] at hwz
    rw [hwz]
    clear hwz
    refine rP 14 ?_
    refine rD ?_
    skip
    have cga_ := ce6 Bga;have cd_ := cz6 Bd
    go_upto_region 17 with fail
    skip
    clear cga_ cd_
    obtain ⟨w12, hwz⟩ : ∃ w12, setL w11 d 0 [.slice A2 Z.code.length c2, .int .i64 Z.loc, .slice B3 Z.flows.length d3, .slice B4 Z.marks.length d4, .bool Z.ended, .int .i64 Z.fault] = w12 := ⟨_, rfl⟩
    have HBM := am (hwz ▸ HBN.out.put (xdG (G := fun k => k = d) (w0 := w11) (Or.inl rfl) [.slice A2 Z.code.length c2, .int .i64 Z.loc, .slice B3 Z.flows.length d3, .slice B4 Z.marks.length d4, .bool Z.ended, .int .i64 Z.fault] 0 w11 (Fr.refl _ _)))
    replace HB := am (hwz ▸ xaY HBN.out.nd.2.2.2 [.slice A2 Z.code.length c2, .int .i64 Z.loc, .slice B3 Z.flows.length d3, .slice B4 Z.marks.length d4, .bool Z.ended, .int .i64 Z.fault] 0 _ HB.out)
    replace Bp := am (hwz ▸ (xaW (fun e => hdp e.symm) [.slice A2 Z.code.length c2, .int .i64 Z.loc, .slice B3 Z.flows.length d3, .slice B4 Z.marks.length d4, .bool Z.ended, .int .i64 Z.fault] 0 w11).trans Bp.out)
    replace Bgb := am (hwz ▸ (xaW (fun e => HGA.out.2.1 e.symm) [.slice A2 Z.code.length c2, .int .i64 Z.loc, .slice B3 Z.flows.length d3, .slice B4 Z.marks.length d4, .bool Z.ended, .int .i64 Z.fault] 0 w11).trans Bgb.out)
    replace Bd := am (hwz ▸ xbD (vs := [.slice A2 Z.code.length c2, .int .i64 Z.loc, .slice B3 Z.flows.length d3, .slice B4 Z.marks.length d4, .bool Z.ended, .int .i64 Z.fault]) Bd.out rfl)
    simp only [setL, Nat.reduceAdd] at hwz
    rw [hwz]
    clear hwz HBN Bga HFA
    have hfp := fun (w' : World) (F' : Nat → Prop) B1 d1 B2 d2 (h : Mx w' w.heap.size g3 F' A5 c5 B1 d1 B2 d2 Z) => xhG h HOK2.out.inv.ok.len
    have hfd := fun (w' : World) (F' : Nat → Prop) B1 d1 B2 d2 (h : Dm w' w.heap.size F' A2 c2 B1 d1 B2 d2 Z) => flowsD_c h
    have hxl : (xcD Z).1.length ≤ 4096 := by
     unfold xcD
     split
     ·
      split
      ·
       exact HOK2.out.inv.ok.len
      ·
       exact Nat.zero_le _
     ·
      exact Nat.zero_le _
    unfold mV at hfd
    generalize xcD Z = XR at hfp hfd hxl
    obtain ⟨xl, xe⟩ := XR
    simp only at hfp hfd hxl
    have HFP := am hfp;have HFD := am hfd;have HXL := am hxl;clear hfp hfd hxl
    go_upto_region 18 with (go_at_call 21; go_loud ((with_reducible refine (size_ok HBM.out.m).mono ?_); rintro z w13 ⟨rfl, k_, hk_⟩; have hb : Below w12.heap.size w12 w13 := hk_ ▸ xaG (Below.refl _ _) k_; clear hk_ k_; replace HBM := am (HBM.out.below hb); replace Bd := am (xaD Bd.out hb); replace Bp := am (xaD Bp.out hb); replace Bgb := am (xaD Bgb.out hb); replace HB := am (xaC HB.out hb); clear hb))
    go_upto_region 19 with (go_at_call 17; go_loud ((with_reducible refine (HFP.out _ _ _ _ _ _ HBM.out.m).mono ?_); rintro z w14 ⟨Ax, cx, rfl, hs, hb⟩; replace HBM := am (HBM.out.below hb); have HSX := am hs; clear hs; replace Bd := am (xaD Bd.out hb); replace Bp := am (xaD Bp.out hb); replace Bgb := am (xaD Bgb.out hb); replace HB := am (xaC HB.out hb); clear hb))
    have cd_ := ce6 Bd
    go_upto_region 20 with (go_at_call 22; go_loud ((with_reducible refine (HFD.out _ _ _ _ _ _ HBM.out.dc).mono ?_); rintro z w15 ⟨Ay, cy, rfl, hs, hb⟩; replace HBM := am (HBM.out.below hb); have HSY := am hs; replace HSX := am (HSX.out.below hb); clear hs; replace Bd := am (xaD Bd.out hb); replace Bp := am (xaD Bp.out hb); replace Bgb := am (xaD Bgb.out hb); replace HB := am (xaC HB.out hb); clear hb))
    clear cd_
    skip
    have u1 : (sc != sc) = false := bne_self_eq_false _
    have u2 : ((Z.flows.length : Int) != (Z.flows.length : Int)) = false := bne_self_eq_false _
    have u3 : ((Z.marks.length : Int) != (Z.marks.length : Int)) = false := bne_self_eq_false _
    have u4 : (xe != xe) = false := bne_self_eq_false _
    have cp_ := ce3 Bp;have cgb_ := ce3 Bgb
    go_upto_if 150 with (first | (go_at_call 23; go_loud ((with_reducible refine (sameP_c sd se sf _).mono ?_); rintro z w16 ⟨rfl, hb⟩; replace HBM := am (HBM.out.below hb); replace HSX := am (HSX.out.below hb); replace HSY := am (HSY.out.below hb); replace Bd := am (xaD Bd.out hb); replace Bp := am (xaD Bp.out hb); replace Bgb := am (xaD Bgb.out hb); replace HB := am (xaC HB.out hb); clear hb; clear cp_; clear cgb_; have cd_ := ce6 Bd)) | (go_at_call 13; go_loud ((with_reducible refine (same_c xl _ _ _ _ _ HSX.out.C (by have h := HSY.out.C; rwa [List.length_map] at h) HXL.out).mono ?_); rintro z w17 ⟨rfl, hb⟩; replace HBM := am (HBM.out.below hb); replace Bd := am (xaD Bd.out hb); replace Bp := am (xaD Bp.out hb); replace Bgb := am (xaD Bgb.out hb); replace HB := am (xaC HB.out hb); clear hb; clear cd_)))
    skip
    go_wp2_with fail
    skip
    go_roundg (80 - (i + 1))
    case measure => exact HM2.out.1
    case rel => exact ⟨i + 1, g3, _, _, A6, c6, A7, c7, B3, d3, B4, d4, Z, rfl, HM2.out.2.1, rfl, by first | rfl | rw [b3], HBM, Bd, HB, HOK2⟩
  ·
   have HB9 := HB
   by_cases hz : i < S.length
   ·
    have t5 : decide (i < S.length) = true := decide_eq_true hz
    have t6 : decide ((i : Int) < 80) = false := decide_eq_false (by omega)
    have t7 : decide (i < 80) = false := decide_eq_false (by omega)
    clear hin hz hkq hi80
    go_wp2_with fail
    go_ret
    exact ⟨rfl, HB9.out⟩
   ·
    have t5 : decide (i < S.length) = false := decide_eq_false hz
    clear hin hz hkq hi80
    go_wp2_with fail
    go_ret
    exact ⟨rfl, HB9.out⟩
theorem plays_all (hk : KT w) (hr : Kd.C k37 w A l.length l) (hs : Kd.C (Kd.int .i64) w B S.length S) (hrg : ∀ x ∈ S, x ≤ 9223372036854775807) (hbit : ∀ o ∈ l, o.f1 < 18446744073709551616 ∧ o.f2 < 18446744073709551616) : Calls Tryz.prog 5 #[.slice A l.length c, .slice B S.length d0, .int .i64 at_] w fun e w' => e = .returned (.bool true) ∧ Below w.heap.size w w' := by
 by_cases hl : 60 < l.length
 ·
  have HK := am hk
  have HB := am (Below.refl w.heap.size w)
  have t1 : decide ((l.length : Int) > 60) = true := decide_eq_true (by omega)
  clear hk hl
  go_enter Tryz.func5, Tryz.ntmps5
  go_wp2_with (go_at_call 9; go_loud ((with_reducible refine (xfH _ (HK.out.below HB.out)).mono ?_); rintro z wk ⟨rfl, hb⟩; replace HB := am (xaC HB.out hb); clear hb))
  go_ret
  exact ⟨rfl, HB.out⟩
 ·
  by_cases he : (chk l).1 = 0
  ·
   exact plays_ok l S at_ A B c d0 w hk hr hs hrg hbit (by omega) he
  ·
   exact plays_bad l S at_ A B c d0 w hk hr (by omega) he
end
end Go.Proofs.YtkabcgmegljebaaGreatDoor.D
