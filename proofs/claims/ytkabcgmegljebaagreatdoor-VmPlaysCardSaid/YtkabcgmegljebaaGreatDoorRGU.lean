/- Contracts and facts of functions of the program, joined in one text. -/
import Derived.Test.YtkabcgmegljebaaGreatDoorRGA
import Derived.Test.YtkabcgmegljebaaGreatDoorRGT
import Derived.Test.YtkabcgmegljebaaGreatDoorRGN
set_option maxHeartbeats 8000000
set_option maxRecDepth 100000
set_option linter.unusedVariables false
set_option linter.unusedSimpArgs false
namespace Go.Proofs.YtkabcgmegljebaaGreatDoor.D
open Go.RowKit Go.Proofs.YtkabcgmegljebaaGreatDoorW.PrintWords Go.Proofs.YtkabcgmegljebaaGreatDoorW.PrintLast Go.Proofs.YtkabcgmegljebaaGreatDoorW.PrintMore
open Go.Proofs.YtkabcgmegljebaaGreatDoor.Q Go.Proofs.YtkabcgmegljebaaGreatDoor.H
theorem xkZ {fxs : S37 → List S48 × Int} : ∀ (k : Nat) (s : St), (s.code.length : Int) ≤ s.loc + k → ∀ k', k ≤ k' → H.runN fxs k' s = H.runN fxs k s
 | 0, s, h, k', _ => by
  have hg : goes s = false := by
   cases hb : goes s with
   | false => rfl
   | true => exact absurd (xdW.1 hb).1 (by omega)
  rw [xdN (Or.inr hg), xdN (Or.inr hg)]
 | k + 1, s, h, 0, hk => absurd hk (by omega)
 | k + 1, s, h, k' + 1, hk => by
  have ih := xkZ (fxs := fxs) k (H.one fxs s) (by show (s.code.length : Int) ≤ s.loc + 1 + k; omega) k' (by omega)
  rw [H.runN, H.runN, ih]
theorem run_doc (l : List S37) (h : l.length ≤ 8192) : xcD (stepM fixF (st0 l) 8193).2.2 = xcD (ends (H.runN fixF (l.length + 1) (st0 l)).2) := by
 unfold stepM
 rw [show (st0 l).ended = false from rfl, if_neg (by decide), if_neg (by decide)]
 have e : ∀ k, l.length ≤ k → H.runN fixF k (st0 l) = H.runN fixF l.length (st0 l) := fun k hk => xkZ l.length (st0 l) (by show (l.length : Int) ≤ 0 + l.length; omega) k hk
 rw [show (8193 : Int).toNat = 8193 from rfl, e 8193 (by omega), e (l.length + 1) (by omega)]
theorem newD_ok (l : List S37) (A : Option Addr) (c : Nat) (w : World) (hr : Kd.C k77 w A l.length (l.map ofO)) (he : (chk l).1 = 0) :
  Calls Tryz.prog 18 #[.slice A l.length c] w fun e w' => e = .returned (.tuple #[(.agg #[.slice A l.length c, .int .i64 0, .slice none 0 0, .slice none 0 0, .bool false, .int .i64 0]), .int .i64 0, .int .i64 0]) ∧ Below w.heap.size w w' := by
 have HB : xaA (Below w.heap.size w w) := ⟨Below.refl _ _⟩
 have hck := fun w' (hb : Below w.heap.size w w') => xlR l A c w' (Kd.xaQ hr hb)
 rw [he] at hck
 generalize (chk l).2.1 = a1 at *
 have HCK := am hck;clear hck hr he
 go_enter Tryz.func18, Tryz.ntmps18
 go_upto_region 1 with ((with_reducible refine xaJ (N := 2) rfl ?_); refine bxv 2 #[.slice none 0 0, .int .i64 0, .slice none 0 0, .slice none 0 0, .bool false, .int .i64 0] 51 ?_; intro r hg w1 hbox hb; have Br := am hbox; have HBr := HB; replace HB := am (xaC HB.out hb); have HGr := am hg; have HLr := am (xaM hbox); clear hb hbox hg)
 have hr0 : xaA (w.heap.size ≤ r) := ⟨Nat.le_of_eq HGr.out.symm⟩
 clear HBr HGr HLr
 go_upto_region 4 with (go_at_call 37; go_loud ((with_reducible refine (HCK.out _ HB.out).mono ?_); rintro z w2 ⟨rfl, hb⟩; replace HB := am (xaC HB.out hb); replace Br := am (xaD Br.out hb); clear hb))
 have cr_ := cz6 Br
 skip
 go_wp2_with fail
 skip
 clear cr_
 obtain ⟨w3, hwz⟩ : ∃ w3, setL w2 r 0 [.slice A l.length c, .int .i64 0, .slice none 0 0, .slice none 0 0, .bool false, .int .i64 0] = w3 := ⟨_, rfl⟩
 replace Br := am (hwz ▸ xbD (vs := [.slice A l.length c, .int .i64 0, .slice none 0 0, .slice none 0 0, .bool false, .int .i64 0]) Br.out rfl)
 replace HB := am (hwz ▸ xaY hr0.out _ 0 _ HB.out)
 simp only [setL, Nat.reduceAdd] at hwz
 rw [hwz]
 clear hwz;have cr_ := ce6 Br
 exact bodyPost_ret (v := .tuple #[(.agg #[.slice A l.length c, .int .i64 0, .slice none 0 0, .slice none 0 0, .bool false, .int .i64 0]), .int .i64 0, .int .i64 0]) (by simp [results, Tryz.results18, go_sem, cr_]) rfl ⟨rfl, HB.out⟩
theorem newD_bad (l : List S37) (A : Option Addr) (c : Nat) (w : World) (hr : Kd.C k77 w A l.length (l.map ofO)) (he : (chk l).1 ≠ 0) :
  Calls Tryz.prog 18 #[.slice A l.length c] w fun e w' => e = .returned (.tuple #[(.agg #[.slice none 0 0, .int .i64 0, .slice none 0 0, .slice none 0 0, .bool false, .int .i64 0]), .int .i64 (chk l).1, .int .i64 (chk l).2.1]) ∧ Below w.heap.size w w' := by
 have HB : xaA (Below w.heap.size w w) := ⟨Below.refl _ _⟩
 have hck := fun w' (hb : Below w.heap.size w w') => xlR l A c w' (Kd.xaQ hr hb)
 generalize (chk l).1 = e1 at *
 generalize (chk l).2.1 = a1 at *
 have t1 : (e1 != 0) = true := bne_iff_ne.2 he
 have HCK := am hck;clear hck hr he
 go_enter Tryz.func18, Tryz.ntmps18
 go_upto_region 1 with ((with_reducible refine xaJ (N := 2) rfl ?_); refine bxv 2 #[.slice none 0 0, .int .i64 0, .slice none 0 0, .slice none 0 0, .bool false, .int .i64 0] 51 ?_; intro r hg w1 hbox hb; have Br := am hbox; have HBr := HB; replace HB := am (xaC HB.out hb); have HGr := am hg; have HLr := am (xaM hbox); clear hb hbox hg)
 have hr0 : xaA (w.heap.size ≤ r) := ⟨Nat.le_of_eq HGr.out.symm⟩
 clear HBr HGr HLr
 go_upto_region 3 with (go_at_call 37; go_loud ((with_reducible refine (HCK.out _ HB.out).mono ?_); rintro z w2 ⟨rfl, hb⟩; replace HB := am (xaC HB.out hb); replace Br := am (xaD Br.out hb); clear hb))
 have cr_ := cz6 Br
 skip
 go_wp2_with fail
 skip
 clear cr_
 obtain ⟨w3, hwz⟩ : ∃ w3, setL w2 r 0 [.slice none 0 0, .int .i64 0, .slice none 0 0, .slice none 0 0, .bool false, .int .i64 0] = w3 := ⟨_, rfl⟩
 replace Br := am (hwz ▸ xbD (vs := [.slice none 0 0, .int .i64 0, .slice none 0 0, .slice none 0 0, .bool false, .int .i64 0]) Br.out rfl)
 replace HB := am (hwz ▸ xaY hr0.out _ 0 _ HB.out)
 simp only [setL, Nat.reduceAdd] at hwz
 rw [hwz]
 clear hwz;have cr_ := ce6 Br
 exact bodyPost_ret (v := .tuple #[(.agg #[.slice none 0 0, .int .i64 0, .slice none 0 0, .slice none 0 0, .bool false, .int .i64 0]), .int .i64 e1, .int .i64 a1]) (by simp [results, Tryz.results18, go_sem, cr_]) rfl ⟨rfl, HB.out⟩
theorem flowsD_c {w : World} {base : Nat} {F : Nat → Prop} {Al Af Am : Option Addr} {cl cf cm : Nat} {s : St} (h : Dm w base F Al cl Af cf Am cm s) :
  Calls Tryz.prog 22 #[mV Al cl Af cf Am cm s] w fun e w' => ∃ A c, e = .returned (.tuple #[.slice A (xcD s).1.length c, .int .i64 (xcD s).2]) ∧ Sl k79 79 w' base F A c ((xcD s).1.map ofF) ∧ Below w.heap.size w w' := by
 have HB : xaA (Below w.heap.size w w) := ⟨Below.refl _ _⟩
 rcases Bool.eq_false_or_eq_true s.ended with he | he
 ·
  by_cases hf : s.fault = 0
  ·
   rw [show xcD s = (s.flows, 0) by unfold xcD; rw [if_pos he, if_pos hf]]
   have HD := am h
   unfold mV
   rw [he, hf]
   clear h he hf
   go_enter Tryz.func22, Tryz.ntmps22
   go_upto_region 1 with ((with_reducible refine xaJ (N := 1) rfl ?_); refine bxv 1 #[.slice Al s.code.length cl, .int .i64 s.loc, .slice Af s.flows.length cf, .slice Am s.marks.length cm, .bool true, .int .i64 0] 51 ?_; intro m hg w1 hbox hb; have Bm := am hbox; have HBm := HB; replace HB := am (xaC HB.out hb); have HGm := am hg; have HLm := am (xaM hbox); clear hb hbox hg)
   have cm_ := ce6 Bm;clear HBm HGm HLm
   go_wp2_with fail
   go_ret2
   exact ⟨Af, cf, rfl, HD.out.f.below HB.out, HB.out⟩
  ·
   rw [show xcD s = ([], s.fault) by unfold xcD; rw [if_pos he, if_neg hf]]
   have HD := am h
   unfold mV
   rw [he]
   have t1 : (s.fault != 0) = true := bne_iff_ne.2 hf
   clear h he hf
   go_enter Tryz.func22, Tryz.ntmps22
   go_upto_region 1 with ((with_reducible refine xaJ (N := 1) rfl ?_); refine bxv 1 #[.slice Al s.code.length cl, .int .i64 s.loc, .slice Af s.flows.length cf, .slice Am s.marks.length cm, .bool true, .int .i64 s.fault] 51 ?_; intro m hg w1 hbox hb; have Bm := am hbox; have HBm := HB; replace HB := am (xaC HB.out hb); have HGm := am hg; have HLm := am (xaM hbox); clear hb hbox hg)
   have cm_ := ce6 Bm;clear HBm HGm HLm
   go_wp2_with fail
   go_quiet (fail)
   try go_wp2
   go_ret2
   exact ⟨none, 0, rfl, Sl.nil _ _ _ _ _, by repeat (first | exact HB.out | apply xaG | apply xaK)⟩
 ·
  rw [show xcD s = ([], 190) by unfold xcD; rw [he, if_neg (by decide)]]
  have HD := am h
  unfold mV
  rw [he]
  clear h he
  go_enter Tryz.func22, Tryz.ntmps22
  go_upto_region 1 with ((with_reducible refine xaJ (N := 1) rfl ?_); refine bxv 1 #[.slice Al s.code.length cl, .int .i64 s.loc, .slice Af s.flows.length cf, .slice Am s.marks.length cm, .bool false, .int .i64 s.fault] 51 ?_; intro m hg w1 hbox hb; have Bm := am hbox; have HBm := HB; replace HB := am (xaC HB.out hb); have HGm := am hg; have HLm := am (xaM hbox); clear hb hbox hg)
  have cm_ := ce6 Bm;clear HBm HGm HLm
  go_wp2_with fail
  go_ret2
  exact ⟨none, 0, rfl, Sl.nil _ _ _ _ _, HB.out⟩
theorem runD_c (l : List S37) (A : Option Addr) (c : Nat) (w : World) {base : Nat} (hs : Sl k77 77 w base (own A) A c (l.map ofO)) (hbs : base ≤ w.heap.size) (hbit : ∀ o ∈ l, o.f1 < 18446744073709551616 ∧ o.f2 < 18446744073709551616) :
  Calls Tryz.prog 11 #[.slice A l.length c] w fun e w' => ∃ A1 c1, e = .returned (.tuple #[.slice A1 (H.runT fixF ((chk l).1, (chk l).2.1) l).1.length c1, .int .i64 (H.runT fixF ((chk l).1, (chk l).2.1) l).2]) ∧ Sl k79 79 w' base (fun _ => True) A1 c1 ((H.runT fixF ((chk l).1, (chk l).2.1) l).1.map ofF) ∧ Below w.heap.size w w' := by
 have HB : xaA (Below w.heap.size w w) := ⟨Below.refl _ _⟩
 have hC : Kd.C k77 w A l.length (l.map ofO) := by have h := hs.C; rwa [List.length_map] at h
 by_cases he : (chk l).1 = 0
 ·
  have hnew := fun w' (hb : Below w.heap.size w w') => newD_ok l A c w' (Kd.xaQ hC hb) he
  have hg := (xeZ he).1
  have hlen := hg.len
  have hwr : IntKind.i64.wrap ((l.length : Int) + 1) = (l.length : Int) + 1 := by rw [i64_w]; unfold wrap64; omega
  have hcode := (xhQ (fxs := fixF) (l.length + 1) (st0 l) hg (inv0 l)).2.1
  rw [show H.runT fixF ((chk l).1, (chk l).2.1) l = xcD (ends (H.runN fixF (l.length + 1) (st0 l)).2) by unfold H.runT; rw [if_pos he]; exact run_doc l hlen]
  have hst := fun w' (hb : Below w.heap.size w w') => step_go (w := w') (base := base) (F := fun _ => False) (Al := A) (Af := none) (Am := none) (cl := c) (cf := 0) (cm := 0) (s := st0 l) ⟨hs.below hb, Sl.nil _ _ _ _ _, Sl.nil _ _ _ _ _, fun k hk => hk.elim, Nat.le_trans hbs hb.size, fun k _ hk => hk⟩ hg (inv0 l) ⟨xjG he, hbit⟩ rfl rfl (fun f hf => (by cases hf)) ((l.length : Int) + 1) (l.length + 1) (by push_cast; rfl) (by omega)
  simp only [show (st0 l).code = l from rfl, show (st0 l).loc = 0 from rfl, show (st0 l).flows = [] from rfl, show (st0 l).marks = [] from rfl, show (st0 l).ended = false from rfl, show (st0 l).fault = 0 from rfl, List.length_nil] at hst
  generalize hz1 : (H.runN fixF (l.length + 1) (st0 l)).1 = nd at hst
  generalize hz2 : (H.runN fixF (l.length + 1) (st0 l)).2.fault = nf at hst
  rw [show (H.runN fixF (l.length + 1) (st0 l)).2.code = (ends (H.runN fixF (l.length + 1) (st0 l)).2).code from rfl] at hcode
  generalize ends (H.runN fixF (l.length + 1) (st0 l)).2 = Z at *
  have HOW : xaA (∀ k, own A k → k < w.heap.size) := ⟨fun k hk => (hs.xfB k hk).2⟩
  unfold mV at hst
  have HNEW := am hnew;have HST := am hst;clear hnew hst hs hg hlen hbit hC he hz1 hz2 hcode hbs
  go_enter Tryz.func11, Tryz.ntmps11
  go_upto_region 2 with (first | (go_at_call 18; go_loud ((with_reducible refine (HNEW.out _ HB.out).mono ?_); rintro z w1 ⟨rfl, hb⟩; replace HB := am (xaC HB.out hb); clear hb)) | ((with_reducible refine xaJ (N := 4) rfl ?_); refine bxv 4 #[.slice none 0 0, .int .i64 0, .slice none 0 0, .slice none 0 0, .bool false, .int .i64 0] 51 ?_; intro m hg w2 hbox hb; have Bm := am hbox; have HBm := HB; replace HB := am (xaC HB.out hb); have HGm := am hg; have HLm := am (xaM hbox); clear hb hbox hg; have cm_ := cz6 Bm))
  skip
  have hm0 : xaA (w.heap.size ≤ m) := ⟨by have := HGm.out; have := HBm.out.size; omega⟩
  clear HBm HGm HLm cm_
  obtain ⟨w3, hwz⟩ : ∃ w3, setL w2 m 0 [.slice A l.length c, .int .i64 0, .slice none 0 0, .slice none 0 0, .bool false, .int .i64 0] = w3 := ⟨_, rfl⟩
  replace Bm := am (hwz ▸ xbD (vs := [.slice A l.length c, .int .i64 0, .slice none 0 0, .slice none 0 0, .bool false, .int .i64 0]) Bm.out rfl)
  replace HB := am (hwz ▸ xaY hm0.out _ 0 _ HB.out)
  simp only [setL, Nat.reduceAdd] at hwz
  rw [hwz]
  clear hwz;have cm_ := cz6 Bm
  go_upto_region 5 with (go_at_call 20; go_loud ((with_reducible refine (HST.out _ HB.out).mono ?_); rintro z w4 ⟨Af2, cf2, Am2, cm2, rfl, hd, hf⟩; have HD := am hd; have HF := am hf; clear hd hf; have HML := am (xaM Bm.out); replace Bm := am (HF.out.blk Bm.out (fun h => h)); replace HB := am (xaC HB.out (HF.out.xdM (Nat.le_refl _) (fun k hk => hk.elim))); have dm_0 : w4.cell? ⟨m, 0, none⟩ = some (.slice A l.length c) := (xaB Bm.out 0).trans rfl; have ym_0 := xaE Bm.out 0; have dm_1 : w4.cell? ⟨m, 1, none⟩ = some (.int .i64 0) := (xaB Bm.out 1).trans rfl; have ym_1 := xaE Bm.out 1; have dm_2 : w4.cell? ⟨m, 2, none⟩ = some (.slice none 0 0) := (xaB Bm.out 2).trans rfl; have ym_2 := xaE Bm.out 2; have dm_3 : w4.cell? ⟨m, 3, none⟩ = some (.slice none 0 0) := (xaB Bm.out 3).trans rfl; have ym_3 := xaE Bm.out 3; have dm_4 : w4.cell? ⟨m, 4, none⟩ = some (.bool false) := (xaB Bm.out 4).trans rfl; have ym_4 := xaE Bm.out 4; have dm_5 : w4.cell? ⟨m, 5, none⟩ = some (.int .i64 0) := (xaB Bm.out 5).trans rfl; have ym_5 := xaE Bm.out 5))
  skip
  clear cm_ dm_0 ym_0 dm_1 ym_1 dm_2 ym_2 dm_3 ym_3 dm_4 ym_4 dm_5 ym_5
  have HFX := am (xdG (G := fun k => k = m) (w0 := w4) (b := m) (Or.inl rfl) [.slice A Z.code.length c, .int .i64 Z.loc, .slice Af2 Z.flows.length cf2, .slice Am2 Z.marks.length cm2, .bool Z.ended, .int .i64 Z.fault] 0 w4 (Fr.refl _ _))
  have hfl := flowsD_c (HD.out.other HFX.out (fun k hk h => by subst h; rcases hk with hk | hk; exact hk; have := HML.out; omega) (fun k hk h => by have h1 := HOW.out k hk; have h2 := hm0.out; omega))
  obtain ⟨w5, hwz⟩ : ∃ w5, setL w4 m 0 [.slice A Z.code.length c, .int .i64 Z.loc, .slice Af2 Z.flows.length cf2, .slice Am2 Z.marks.length cm2, .bool Z.ended, .int .i64 Z.fault] = w5 := ⟨_, rfl⟩
  replace Bm := am (hwz ▸ xbD (vs := [.slice A Z.code.length c, .int .i64 Z.loc, .slice Af2 Z.flows.length cf2, .slice Am2 Z.marks.length cm2, .bool Z.ended, .int .i64 Z.fault]) Bm.out rfl)
  replace HB := am (hwz ▸ xaY hm0.out _ 0 _ HB.out)
  have HW5 := am hwz
  simp only [setL, Nat.reduceAdd] at hwz
  rw [hwz]
  clear hwz
  rw [HW5.out] at hfl
  unfold mV at hfl
  have HFL := am hfl;clear hfl HFX HW5;have cm_ := ce6 Bm
  go_wp2_with (go_at_call 22; go_loud ((with_reducible refine (HFL.out).mono ?_); rintro z w6 ⟨A3, c3, rfl, hs3, hb⟩; have HS3 := am hs3; replace HB := am (xaC HB.out hb); clear hs3 hb))
  skip
  go_ret2
  exact ⟨A3, c3, rfl, HS3.out.mono (fun _ _ _ => trivial), HB.out⟩
 ·
  have hnew := fun w' (hb : Below w.heap.size w w') => newD_bad l A c w' (Kd.xaQ hC hb) he
  rw [show H.runT fixF ((chk l).1, (chk l).2.1) l = ([], (chk l).1) by unfold H.runT; rw [if_neg he]]
  generalize (chk l).1 = e1 at *
  generalize (chk l).2.1 = a1 at *
  have t1 : (e1 != 0) = true := bne_iff_ne.2 he
  have HNEW := am hnew;clear hnew hs hbit hC he hbs
  go_enter Tryz.func11, Tryz.ntmps11
  go_upto_region 2 with (first | (go_at_call 18; go_loud ((with_reducible refine (HNEW.out _ HB.out).mono ?_); rintro z w1 ⟨rfl, hb⟩; replace HB := am (xaC HB.out hb); clear hb)) | ((with_reducible refine xaJ (N := 4) rfl ?_); refine bxv 4 #[.slice none 0 0, .int .i64 0, .slice none 0 0, .slice none 0 0, .bool false, .int .i64 0] 51 ?_; intro m hg w2 hbox hb; have Bm := am hbox; have HBm := HB; replace HB := am (xaC HB.out hb); have HGm := am hg; have HLm := am (xaM hbox); clear hb hbox hg; have cm_ := cz6 Bm))
  have hm0 : xaA (w.heap.size ≤ m) := ⟨by have := HGm.out; have := HBm.out.size; omega⟩
  clear HBm HGm HLm cm_
  obtain ⟨w3, hwz⟩ : ∃ w3, setL w2 m 0 [.slice none 0 0, .int .i64 0, .slice none 0 0, .slice none 0 0, .bool false, .int .i64 0] = w3 := ⟨_, rfl⟩
  replace Bm := am (hwz ▸ xbD (vs := [.slice none 0 0, .int .i64 0, .slice none 0 0, .slice none 0 0, .bool false, .int .i64 0]) Bm.out rfl)
  replace HB := am (hwz ▸ xaY hm0.out _ 0 _ HB.out)
  simp only [setL, Nat.reduceAdd] at hwz
  rw [hwz]
  clear hwz
  skip
  go_wp2_with fail
  go_ret2
  exact ⟨none, 0, rfl, Sl.nil _ _ _ _ _, HB.out⟩
end Go.Proofs.YtkabcgmegljebaaGreatDoor.D
namespace Go.Proofs.YtkabcgmegljebaaGreatDoor.H
open Go.RowKit Go.Proofs.YtkabcgmegljebaaGreatDoorW.PrintWords Go.Proofs.YtkabcgmegljebaaGreatDoorW.PrintLast Go.Proofs.YtkabcgmegljebaaGreatDoorW.PrintMore
open Go.Proofs.YtkabcgmegljebaaGreatDoor.Q
section
variable {fxs : S37 → List S48 × Int}
theorem xdN {s : St} (h : goes s = false) : ∀ n, runN fxs n s = (0, s)
  | 0 => rfl
  | n + 1 => by rw [runN, if_neg (by rw [h]; decide)]
theorem xmC (b : Nat) : ∀ (a : Nat) (s : St), (runN fxs (a + b) s).2 = (runN fxs b (runN fxs a s).2).2
 | 0, s => by rw [Nat.zero_add]; rfl
 | a + 1, s => by
  by_cases h : goes s = true
  ·
   rw [show a + 1 + b = (a + b) + 1 by omega, runN, if_pos h, runN, if_pos h]
   exact xmC b a (one fxs s)
  ·
   have h' := Bool.eq_false_iff.2 h
   rw [xdN h', xdN h']
   simp only
   rw [xdN h']
theorem run_full : ∀ (n : Nat) (s : St), (s.code.length : Int) - s.loc ≤ n → goes (runN fxs n s).2 = false
 | 0, s, h => by
  show goes s = false
  unfold goes
  rw [decide_eq_false (by simp at h; omega)]; rfl
 | n + 1, s, h => by
  by_cases hg : goes s = true
  ·
   rw [runN, if_pos hg]
   exact run_full n (one fxs s) (by show (s.code.length : Int) - (s.loc + 1) ≤ n; push_cast at h; omega)
  ·
   rw [xdN (Bool.eq_false_iff.2 hg)]; exact Bool.eq_false_iff.2 hg
theorem xkY {M : Int} {l : List S37} (hg : Good fxs l) (hM : ∀ i, i ≤ l.length → xdB (l.take i) ≤ M) : ∀ (n : Nat) (s : St), s.code = l → Inv s → (s.marks.length : Int) ≤ M → ((runN fxs n s).2.marks.length : Int) ≤ M
 | 0, s, _, _, h => h
 | n + 1, s, hc, hi, h => by
  rw [runN]
  by_cases hgo : goes s = true
  ·
   rw [if_pos hgo]
   have h1 := xhW (by rw [hc]; exact hg) hi hgo
   refine xkY hg hM n (one fxs s) hc h1 ?_
   by_cases hf : (one fxs s).fault = 0
   ·
    have h2 := h1.md hf
    rw [h2]
    have h3 : (one fxs s).code = l := hc
    rw [h3]
    have h4 := h1.loc
    rw [h3] at h4
    exact hM _ (by omega)
   ·
    have hf' : ¬ (doOp (fxs (opAt s)) (opAt s) s.flows s.marks).2.2 = 0 := hf
    show (((doOp (fxs (opAt s)) (opAt s) s.flows s.marks).2.1.length : Nat) : Int) ≤ M
    unfold doOp at hf' ⊢
    by_cases he : (act (fxs (opAt s)) (opAt s) s.flows s.marks).2.2 = 0
    ·
     rw [if_pos he] at hf'; exact absurd he hf'
    ·
     rw [if_neg he]; exact h
  ·
   rw [if_neg hgo]; exact h
theorem ends_eq {s : St} (h : s.ended = false) (h2 : (ends s).ended = false) : ends s = s := by
 cases s
 unfold ends at h2 ⊢
 simp only at h h2 ⊢
 rw [h2, h]
structure Rd (fxs : S37 → List S48 × Int) (l : List S37) (M : Int) (T s : St) : Prop where
 code : s.code = l
 ended : s.ended = false
 inv : Inv s
 marks : (s.marks.length : Int) ≤ M
 tot : (runN fxs 8193 s).2 = T
theorem Rd.one {l : List S37} {M : Int} {T s : St} (hg : Good fxs l) (hM : ∀ i, i ≤ l.length → xdB (l.take i) ≤ M) (h : Rd fxs l M T s) (n : Int) (hn : 1 ≤ n) :
  (stepM fxs s n).2.1 = 0 ∧ (stepM fxs s n).2.2.code = l ∧ Inv (stepM fxs s n).2.2 ∧ (stepM fxs s n).2.2.flows.length ≤ 4096 ∧ ((stepM fxs s n).2.2.marks.length : Int) ≤ M ∧ s.loc + (stepM fxs s n).1.done = (stepM fxs s n).2.2.loc ∧ (stepM fxs s n).1.ended = (stepM fxs s n).2.2.ended ∧
  ((stepM fxs s n).1.ended = false → Rd fxs l M T (stepM fxs s n).2.2 ∧ s.loc + 1 ≤ (stepM fxs s n).2.2.loc ∧ (stepM fxs s n).2.2.loc < (l.length : Int)) ∧
  ((stepM fxs s n).1.ended = true → (stepM fxs s n).2.2 = ends T ∧ (stepM fxs s n).1.fault = T.fault ∧ (T.fault = 0 → T.loc = (l.length : Int)) ∧ T.loc ≤ (l.length : Int)) := by
 have hgs : Good fxs s.code := by rw [h.code]; exact hg
 obtain ⟨r1, r2, r3, r4, r5⟩ := xhQ n.toNat s hgs h.inv
 have rm := xkY hg hM n.toNat s h.code h.inv h.marks
 have rt : (runN fxs 8193 (runN fxs n.toNat s).2).2 = T := by
  rw [← xmC, Nat.add_comm, xmC]
  have h1 : goes (runN fxs 8193 s).2 = false := run_full 8193 s (by have := hgs.len; have := h.inv.loc; omega)
  rw [xdN h1, h.tot]
 have hst : stepM fxs s n = (⟨(runN fxs n.toNat s).1, (ends (runN fxs n.toNat s).2).ended, (runN fxs n.toNat s).2.fault⟩, 0, ends (runN fxs n.toNat s).2) := by
  unfold stepM; rw [h.ended, if_neg (by decide), if_neg (by omega)]
 rw [hst]
 simp only
 have hloc : s.loc + ((runN fxs n.toNat s).1 : Int) = (runN fxs n.toNat s).2.loc := r5.symm
 have hone : goes s = true → 1 ≤ (runN fxs n.toNat s).1 := fun hgo => by
  obtain ⟨m, hm⟩ : ∃ m, n.toNat = m + 1 := ⟨n.toNat - 1, by omega⟩
  rw [hm, runN, if_pos hgo]; simp
 have hstop : goes s = false → runN fxs n.toNat s = (0, s) := fun hgo => xdN hgo _
 generalize runN fxs n.toNat s = r at *
 obtain ⟨k, s1⟩ := r
 simp only at *
 refine ⟨trivial, r2.trans h.code, ends_inv r1, r1.ok.len, rm, hloc, trivial, fun he => ?_, fun he => ?_⟩
 ·
  have h1 : s1.ended = false := r3.trans h.ended
  have he2 := ends_eq h1 he
  rw [he2]
  have hg1 : s1.loc < (s1.code.length : Int) ∧ s1.fault = 0 := by
   unfold ends at he
   simp only [Bool.or_eq_false_iff, decide_eq_false_iff_not] at he
   have := r1.loc
   exact ⟨by omega, Classical.byContradiction he.2⟩
  have hgo : goes s = true := by
   by_cases hc : goes s = true
   ·
    exact hc
   ·
    have h2 := hstop (Bool.eq_false_iff.2 hc)
    injection h2 with h2 h3
    subst h3
    exact absurd (xdW.2 hg1) hc
  refine ⟨⟨r2.trans h.code, h1, r1, rm, rt⟩, ?_, ?_⟩
  ·
   have := hone hgo; omega
  ·
   rw [← h.code, ← r2]; exact hg1.1
 ·
  have hng : goes s1 = false := by
   unfold ends at he
   simp only [Bool.or_eq_true, decide_eq_true_eq] at he
   unfold goes
   rcases he with he | he
   ·
    rw [decide_eq_false (by omega)]; rfl
   ·
    rw [decide_eq_false (show ¬ s1.fault = 0 from he), Bool.and_false]
  have hT : s1 = T := by rw [xdN hng] at rt; exact rt
  subst hT
  refine ⟨rfl, rfl, fun hf => ?_, ?_⟩
  ·
   have h2 : ¬ (s1.loc < (s1.code.length : Int)) := fun hl => by
    rw [xdW.2 ⟨hl, hf⟩] at hng; cases hng
   have := r1.loc
   rw [← h.code, ← r2]; omega
  ·
   rw [← h.code, ← r2]; exact r1.loc.2
end
def l3 : List S37 := [⟨1, 0, 0, 0, 0, 0, 0, 0, 0⟩, ⟨2, 4607182418800017408, 0, 9, 0, 1, 0, 0, 0⟩, ⟨5, 4611686018427387904, 0, 0, 0, 0, 0, 0, 0⟩]
theorem chk3 : chk l3 = (0, 0, 1) := by decide +kernel
def s1 : St := ⟨l3, 1, [], [0], false, 0⟩
def s2 : St := ⟨l3, 3, [⟨9, 4611686018427387904, 1⟩], [], true, 0⟩
theorem step3a : stepM fixF (st0 l3) 1 = (⟨1, false, 0⟩, 0, s1) := by rfl
theorem step3b : stepM fixF s1 5 = (⟨2, true, 0⟩, 0, s2) := by rfl
theorem run3 : runT fixF (0, 0) l3 = ([⟨9, 4611686018427387904, 1⟩], 0) := by rfl
theorem good3 : Good fixF l3 := (xeZ (l := l3) (by rw [chk3])).1
theorem inv1 : Inv s1 := by
 have h := xhC (fxs := fixF) (s := st0 l3) good3 (inv0 l3) 1
 rw [step3a] at h
 exact h.1
theorem ck3 : CkC l3 (0, 0) := by
 have h := xjF l3
 rw [chk3] at h
 exact h
theorem C3 {w : World} (x y z : S37) : Kd.C k37 (w.alloc (.cells #[.int .i64 x.f0, .float .f64 x.f1, .float .f64 x.f2, .int .i64 x.f3, .int .i64 x.f4, .int .i64 x.f5, .int .i64 x.f6, .int .i64 x.f7, .int .i64 x.f8, .int .i64 y.f0, .float .f64 y.f1, .float .f64 y.f2, .int .i64 y.f3, .int .i64 y.f4, .int .i64 y.f5, .int .i64 y.f6, .int .i64 y.f7, .int .i64 y.f8, .int .i64 z.f0, .float .f64 z.f1, .float .f64 z.f2, .int .i64 z.f3, .int .i64 z.f4, .int .i64 z.f5, .int .i64 z.f6, .int .i64 z.f7, .int .i64 z.f8] 37)) (some ⟨w.heap.size, 0, none⟩) 3 [x, y, z] := by
 have hn := xbF w (.cells #[.int .i64 x.f0, .float .f64 x.f1, .float .f64 x.f2, .int .i64 x.f3, .int .i64 x.f4, .int .i64 x.f5, .int .i64 x.f6, .int .i64 x.f7, .int .i64 x.f8, .int .i64 y.f0, .float .f64 y.f1, .float .f64 y.f2, .int .i64 y.f3, .int .i64 y.f4, .int .i64 y.f5, .int .i64 y.f6, .int .i64 y.f7, .int .i64 y.f8, .int .i64 z.f0, .float .f64 z.f1, .float .f64 z.f2, .int .i64 z.f3, .int .i64 z.f4, .int .i64 z.f5, .int .i64 z.f6, .int .i64 z.f7, .int .i64 z.f8] 37)
 refine ⟨rfl, by omega, fun _ => ⟨_, rfl, fun j q hj => ?_⟩⟩
 match j, hj with
 | 0, hj =>
  obtain rfl : x = q := by simpa using hj
  refine ⟨_, rfl, xhZ _ _, fun i u hu => ?_⟩
  rw [Nat.zero_mul, Nat.zero_add, Addr.add_lit, Nat.zero_add, xaB hn]
  match i, hu with
  | 0, hu | 1, hu | 2, hu | 3, hu | 4, hu | 5, hu | 6, hu | 7, hu | 8, hu => exact hu
  | n + 9, hu => simp at hu
 | 1, hj =>
  obtain rfl : y = q := by simpa using hj
  refine ⟨_, rfl, xhZ _ _, fun i u hu => ?_⟩
  rw [Addr.add_lit, xaB hn]
  match i, hu with
  | 0, hu | 1, hu | 2, hu | 3, hu | 4, hu | 5, hu | 6, hu | 7, hu | 8, hu => exact hu
  | n + 9, hu => simp at hu
 | 2, hj =>
  obtain rfl : z = q := by simpa using hj
  refine ⟨_, rfl, xhZ _ _, fun i u hu => ?_⟩
  rw [Addr.add_lit, xaB hn]
  match i, hu with
  | 0, hu | 1, hu | 2, hu | 3, hu | 4, hu | 5, hu | 6, hu | 7, hu | 8, hu => exact hu
  | n + 9, hu => simp at hu
 | n + 3, hj => simp at hj
theorem xfH (w : World) (hk : KT w) : Calls Tryz.prog 9 #[] w fun e w' => e = .returned (.bool true) ∧ Below w.heap.size w w' := by
 have HK := am hk;clear hk
 go_enter Tryz.func9, Tryz.ntmps9
 go_upto_region 2 with fail
 have HR := am (C3 (w := w) ⟨1, 0, 0, 0, 0, 0, 0, 0, 0⟩ ⟨2, 4607182418800017408, 0, 9, 0, 1, 0, 0, 0⟩ ⟨5, 4611686018427387904, 0, 0, 0, 0, 0, 0, 0⟩)
 simp only at HR
 have HB := am (xaH (Below.refl w.heap.size w) (.cells #[.int .i64 1, .float .f64 0, .float .f64 0, .int .i64 0, .int .i64 0, .int .i64 0, .int .i64 0, .int .i64 0, .int .i64 0, .int .i64 2, .float .f64 4607182418800017408, .float .f64 0, .int .i64 9, .int .i64 0, .int .i64 1, .int .i64 0, .int .i64 0, .int .i64 0, .int .i64 5, .float .f64 4611686018427387904, .float .f64 0, .int .i64 0, .int .i64 0, .int .i64 0, .int .i64 0, .int .i64 0, .int .i64 0] 37))
 have HKW := am (HK.out.below (xaH (Below.refl w.heap.size w) (.cells #[.int .i64 1, .float .f64 0, .float .f64 0, .int .i64 0, .int .i64 0, .int .i64 0, .int .i64 0, .int .i64 0, .int .i64 0, .int .i64 2, .float .f64 4607182418800017408, .float .f64 0, .int .i64 9, .int .i64 0, .int .i64 1, .int .i64 0, .int .i64 0, .int .i64 0, .int .i64 5, .float .f64 4611686018427387904, .float .f64 0, .int .i64 0, .int .i64 0, .int .i64 0, .int .i64 0, .int .i64 0, .int .i64 0] 37)))
 generalize w.heap.size = gb at HR ⊢
 generalize w.alloc (.cells #[.int .i64 1, .float .f64 0, .float .f64 0, .int .i64 0, .int .i64 0, .int .i64 0, .int .i64 0, .int .i64 0, .int .i64 0, .int .i64 2, .float .f64 4607182418800017408, .float .f64 0, .int .i64 9, .int .i64 0, .int .i64 1, .int .i64 0, .int .i64 0, .int .i64 0, .int .i64 5, .float .f64 4611686018427387904, .float .f64 0, .int .i64 0, .int .i64 0, .int .i64 0, .int .i64 0, .int .i64 0, .int .i64 0] 37) = W at HR HB HKW ⊢
 have hn : Calls Tryz.prog 14 #[.slice (some ⟨gb, 0, none⟩) 3 3] W fun e w' => ∃ gn A1 c1, e = .returned (.tuple #[.pointer (some ⟨gn, 0, none⟩), .int .i64 0, .int .i64 0]) ∧ Below W.heap.size W w' ∧ Mx w' W.heap.size gn (fun k => k = gn) A1 c1 none 0 none 0 (st0 l3) ∧ (∀ k, own A1 k → W.heap.size ≤ k) := new_ok (l := l3) HKW.out HR.out ck3 rfl (by decide)
 have HN := am hn;clear hn
 go_upto_region 5 with (go_at_call 14; (with_reducible refine (HN.out).mono ?_); rintro e w1 ⟨gn, A1, k1, rfl, hb, hx, ho⟩; have HBW := am hb; have HX := am hx; clear hb hx ho)
 have HS := am (step_ok (fxs := fixF) HX.out good3 (inv0 l3) 1 (by omega))
 go_upto_region 6 with (go_at_call 16; (with_reducible refine (HS.out).mono ?_); rintro e w2 ⟨he, hf, A2, n2, A3, n3, hm⟩; rw [step3a] at he hm; obtain rfl : e = .returned (.tuple #[.agg #[.int .i64 1, .bool false, .int .i64 0], .int .i64 0]) := he; replace HBW := am (HBW.out.trans ((hf.xdM HX.out.xbJ (fun k hk => (HX.out.hF k hk).1)))); have HM := am hm; clear hf hm)
 clear HS HN HX
 have BP := am (xbF w2 (.cells #[.int .i64 1, .bool false, .int .i64 0] 43))
 have HP : xaA (∀ k, Gr (fun k => k = gn) w1.heap.size w2.heap.size k → k ≠ w2.heap.size) := ⟨fun k hk => by have := (HM.out.hF k hk).2; omega⟩
 replace HM := am (HM.out.alloc (.cells #[.int .i64 1, .bool false, .int .i64 0] 43))
 replace HBW := am (xaH HBW.out (.cells #[.int .i64 1, .bool false, .int .i64 0] 43))
 generalize w2.heap.size = gp at BP HP HM ⊢
 generalize w2.alloc (.cells #[.int .i64 1, .bool false, .int .i64 0] 43) = w3 at BP HM HBW ⊢
 generalize Gr (fun k => k = gn) w1.heap.size gp = F at HP HM
 have hsz : Calls Tryz.prog 21 #[.pointer (some ⟨gn, 0, none⟩)] w3 fun e w' => e = .returned (.tuple #[.int .i64 0, .int .i64 1]) ∧ ∃ k, w' = w3.drewN k := size_ok HM.out
 have HSZ := am hsz;clear hsz
 go_upto_region 7 with (go_at_call 21; (with_reducible refine (HSZ.out).mono ?_); rintro e w' ⟨rfl, nk, rfl⟩)
 clear HSZ
 replace BP := am (xaZ BP.out nk)
 replace HM := am (HM.out.drewN nk)
 replace HBW := am (xaG HBW.out nk)
 generalize w3.drewN nk = w4 at BP HM HBW ⊢
 have hfl : Calls Tryz.prog 17 #[.pointer (some ⟨gn, 0, none⟩)] w4 fun e w' => ∃ A c, e = .returned (.tuple #[.slice A 0 c, .int .i64 190]) ∧ Sl k48 48 w' w4.heap.size (fun _ => True) A c [] ∧ Below w4.heap.size w4 w' := xhG HM.out (by decide)
 have HFL := am hfl;clear hfl
 go_upto_region 8 with (go_at_call 17; (with_reducible refine (HFL.out).mono ?_); rintro e w5 ⟨Af, cf, rfl, _, hb⟩; replace BP := am (xaD BP.out hb); replace HM := am (HM.out.below hb); replace HBW := am (HBW.out.trans (hb.mono HBW.out.size)); clear hb)
 clear HFL
 have HS := am (step_ok (fxs := fixF) HM.out good3 inv1 5 (by omega))
 go_upto_region 9 with (go_at_call 16; (with_reducible refine (HS.out).mono ?_); rintro e w6 ⟨he, hf, _, _, _, _, _⟩; rw [step3b] at he; obtain rfl : e = .returned (.tuple #[.agg #[.int .i64 2, .bool true, .int .i64 0], .int .i64 0]) := he; replace HBW := am (HBW.out.trans ((hf.xdM HM.out.xbJ (fun k hk => (HM.out.hF k hk).1)))); replace BP := am (hf.blk BP.out (fun h => HP.out _ h rfl)); clear hf)
 clear HS HM HP
 have BQ := am (xbF w6 (.cells #[.int .i64 2, .bool true, .int .i64 0] 43))
 replace BP := am (xaT BP.out (.cells #[.int .i64 2, .bool true, .int .i64 0] 43))
 replace HBW := am (xaH HBW.out (.cells #[.int .i64 2, .bool true, .int .i64 0] 43))
 generalize w6.heap.size = gq at BQ ⊢
 generalize w6.alloc (.cells #[.int .i64 2, .bool true, .int .i64 0] 43) = w7 at BP BQ HBW ⊢
 have hr := run_ok (l := l3) (ck := (0, 0)) (A := some ⟨gb, 0, none⟩) (c := 3) (HKW.out.below HBW.out) fixF (Kd.xaQ HR.out HBW.out) ck3 (fun _ => good3)
 rw [run3] at hr
 have hr' : Calls Tryz.prog 10 #[.slice (some ⟨gb, 0, none⟩) 3 3] w7 fun e w' => ∃ A1 c1, e = .returned (.tuple #[.slice A1 1 c1, .int .i64 0]) ∧ Sl k48 48 w' w7.heap.size (fun _ => True) A1 c1 [⟨9, 4611686018427387904, 1⟩] ∧ Below w7.heap.size w7 w' := hr
 have HRN := am hr';clear hr hr'
 go_upto_region 10 with (go_at_call 10; (with_reducible refine (HRN.out).mono ?_); rintro e w8 ⟨A1, c1, rfl, hs, hb⟩; have HRW := am hs.C; replace BP := am (xaD BP.out hb); replace BQ := am (xaD BQ.out hb); replace HBW := am (HBW.out.trans (hb.mono HBW.out.size)); clear hb hs)
 clear HRN
 obtain ⟨ad, e, h0, h1, h2⟩ := xhA HRW.out 0 (by omega) (by decide)
 subst e
 simp only [xiW, Int.toNat_zero, List.getD_cons_zero, Nat.zero_mul, Addr.add, Nat.add_zero, if_true] at h0 h1 h2
 obtain ⟨p0, p1, p2, y0, y1, y2⟩ := blk3 BP
 obtain ⟨q0, q1, q2, z0, z1, z2⟩ := blk3 BQ
 go_wp2_with fail
 go_ret
 exact ⟨rfl, HB.out.trans (HBW.out.mono HB.out.size)⟩
end Go.Proofs.YtkabcgmegljebaaGreatDoor.H
