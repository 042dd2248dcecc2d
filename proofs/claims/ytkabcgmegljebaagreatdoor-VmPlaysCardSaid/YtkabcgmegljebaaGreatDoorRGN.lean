/- Contracts and facts of functions of the program, joined in one text. -/
import Derived.Test.YtkabcgmegljebaaGreatDoorRGM
import Derived.Test.YtkabcgmegljebaaGreatDoorRGA
import Derived.Test.YtkabcgmegljebaaGreatDoorRGJ
import Derived.Test.YtkabcgmegljebaaGreatDoorRGE
import Derived.WalkMore
set_option maxHeartbeats 8000000
set_option maxRecDepth 100000
set_option linter.unusedVariables false
set_option linter.unusedSimpArgs false
namespace Go.Proofs.YtkabcgmegljebaaGreatDoor.H
open Go.RowKit Go.Proofs.YtkabcgmegljebaaGreatDoorW.PrintWords Go.Proofs.YtkabcgmegljebaaGreatDoorW.PrintLast Go.Proofs.YtkabcgmegljebaaGreatDoorW.PrintMore
open Go.Proofs.YtkabcgmegljebaaGreatDoor.Q
def chkGo : List S37 → Int → Int → Int → Int × Int × Int
 | [], i, m, most => if 0 < m then (180, i, 0) else (0, 0, most)
 | o :: r, i, m, most =>
  if xbE o = false then (180, i, 0)
  else if addsB o.f0 = true then chkGo r (i + 1) m most
  else if o.f0 = 1 then (if 63 < m + 1 then (172, i, 0) else chkGo r (i + 1) (m + 1) (max most (m + 1)))
  else if m = 0 then (180, i, 0) else chkGo r (i + 1) (m - 1) most
def chk (l : List S37) : Int × Int × Int := if 8192 < l.length then (2, 0, 0) else chkGo l 0 0 0
theorem rd37 {l : List S37} {i : Nat} (h : i < l.length) : xeE l (i : Int) = l[i] := by
  unfold xeE; rw [Int.toNat_natCast, List.getD_eq_getElem?_getD, List.getElem?_eq_getElem h]; rfl
theorem check_c (l : List S37) (A : Option Addr) (c : Nat) (w : World) (hk : KT w) (hr : Kd.C k37 w A l.length l) : Calls Tryz.prog 40 #[.slice A l.length c] w fun e w' => e = .returned (.tuple #[.int .i64 (chk l).1, .int .i64 (chk l).2.1, .int .i64 (chk l).2.2]) ∧ Below w.heap.size w w' := by
 have HR := am hr;have HK := am hk;clear hr hk
 by_cases h1 : 8192 < l.length
 ·
  have t1 : decide ((8192 : Int) < (l.length : Int)) = true := decide_eq_true (by omega)
  have e : chk l = (2, 0, 0) := by unfold chk; rw [if_pos h1]
  rw [e]
  clear e h1
  go_enter Tryz.func40, Tryz.ntmps40
  go_wp2_with fail
  refine bodyPost_ret (results_tmp3 rfl _ _ _) rfl ⟨rfl, Below.refl _ _⟩
 have t1 : decide ((8192 : Int) < (l.length : Int)) = false := decide_eq_false (by omega)
 have e : chk l = chkGo l 0 0 0 := by unfold chk; rw [if_neg h1]
 generalize hres : chk l = res at e ⊢
 have HE := am e
 have HL : xaA (l.length ≤ 8192) := ⟨by omega⟩
 clear e hres h1
 go_enter Tryz.func40, Tryz.ntmps40
 go_wp2_with fail
 go_loopg [4, 5, 13] (l.length) (fun kq v4 v5 v13 w' => ∃ (i : Nat) (m most : Int), i ≤ l.length ∧ kq + i = l.length ∧ v4 = .int .i64 most ∧ v5 = .int .i64 m ∧ v13 = .int .i64 (i : Int) ∧ 0 ≤ m ∧ m ≤ 63 ∧ 0 ≤ most ∧ most ≤ 63 ∧ xaA (Below w.heap.size w w') ∧ xaA (chkGo l 0 0 0 = chkGo (l.drop i) (i : Int) m most))
 case atStart => exact ⟨0, 0, 0, by omega, by omega, rfl, rfl, rfl, by omega, by omega, by omega, by omega, ⟨Below.refl _ _⟩, ⟨rfl⟩⟩
 case round =>
  obtain ⟨i, m, most, hi, hik, rfl, rfl, rfl, hm0, hm1, hs0, hs1, HB, HC⟩ := hrel
  by_cases hil : i < l.length
  rotate_left
  ·
   have t2 : decide (i < l.length) = false := decide_eq_false hil
   have hfin : res = (if 0 < m then (180, (i : Int), 0) else (0, 0, most)) := by rw [HE.out, HC.out, List.drop_eq_nil_of_le (by omega)]; rfl
   have hli : (l.length : Int) = (i : Int) := by omega
   have HF := am hfin;have HLI := am hli;clear hfin hli
   by_cases a1 : 0 < m
   ·
    have u1 : decide (0 < m) = true := decide_eq_true a1
    have HA := am a1;clear a1
    go_wp2_with fail
    have e := HF.out
    rw [if_pos (by have := HA.out; omega)] at e
    rw [e]
    rw [HLI.out]
    refine bodyPost_ret (results_tmp3 rfl _ _ _) rfl ⟨rfl, HB.out⟩
   ·
    have u1 : decide (0 < m) = false := decide_eq_false a1
    have HA := am a1;clear a1
    go_wp2_with fail
    have e := HF.out
    rw [if_neg (by have := HA.out; omega)] at e
    rw [e]
    refine bodyPost_ret (results_tmp3 rfl _ _ _) rfl ⟨rfl, HB.out⟩
  have t2 : decide (i < l.length) = true := decide_eq_true hil
  have hc := Kd.xaQ HR.out HB.out
  obtain ⟨ad, e, q0, q1, q2, q3, q4, q5, q6, q7, q8⟩ := xlW hc (i : Int) (by omega) (by omega)
  subst e
  rw [rd37 hil] at q0 q1 q2 q3 q4 q5 q6 q7 q8
  rw [Int.toNat_natCast] at q0 q1 q2 q3 q4 q5 q6 q7 q8
  have HT := am (List.drop_eq_getElem_cons hil)
  obtain ⟨x, hx⟩ : ∃ x, x = l[i] := ⟨_, rfl⟩
  rw [← hx] at HT q0 q1 q2 q3 q4 q5 q6 q7 q8
  clear hx hc
  have B7 := am (xbF wr (.cells #[.int .i64 x.f0, .float .f64 x.f1, .float .f64 x.f2, .int .i64 x.f3, .int .i64 x.f4, .int .i64 x.f5, .int .i64 x.f6, .int .i64 x.f7, .int .i64 x.f8] 37))
  have HB1 := am (xaH HB.out (.cells #[.int .i64 x.f0, .float .f64 x.f1, .float .f64 x.f2, .int .i64 x.f3, .int .i64 x.f4, .int .i64 x.f5, .int .i64 x.f6, .int .i64 x.f7, .int .i64 x.f8] 37))
  have HK1 : xaA (KT (wr.alloc (.cells #[.int .i64 x.f0, .float .f64 x.f1, .float .f64 x.f2, .int .i64 x.f3, .int .i64 x.f4, .int .i64 x.f5, .int .i64 x.f6, .int .i64 x.f7, .int .i64 x.f8] 37))) := ⟨HK.out.below HB1.out⟩
  obtain ⟨c0, c1, c2, c3, c4, c5, c6, c7, c8, z0, z1, z2, z3, z4, z5, z6, z7, z8⟩ := blk9 B7
  clear z0 z1 z2 z3 z4 z5 z6 z7 z8
  have hmx : (i : Int) + 1 ≤ 9223372036854775807 := by have := HL.out; omega
  have hstep : ∀ r, chkGo (x :: l.drop (i + 1)) (i : Int) m most = r → res = r := fun r h => by rw [HE.out, HC.out, HT.out, h]
  have HST := am hstep;clear hstep
  go_wp2_with fail
  refine (fieldsO_c x.f0 x.f1 x.f2 x.f3 x.f4 x.f5 x.f6 x.f7 x.f8 _ HK1.out).mono ?_
  rintro e w2 ⟨rfl, hb⟩
  have B8 := am (xaD B7.out hb)
  have HB2 := am (HB1.out.trans (hb.mono HB1.out.size))
  clear c0 c1 c2 c3 c4 c5 c6 c7 c8 q0 q1 q2 q3 q4 q5 q6 q7 q8 hb
  obtain ⟨c0, c1, c2, c3, c4, c5, c6, c7, c8, z0, z1, z2, z3, z4, z5, z6, z7, z8⟩ := blk9 B8
  clear z0 z1 z2 z3 z4 z5 z6 z7 z8 c1 c2 c3 c4 c5 c6 c7 c8
  by_cases a1 : xbE ⟨x.f0, x.f1, x.f2, x.f3, x.f4, x.f5, x.f6, x.f7, x.f8⟩ = true
  rotate_left
  ·
   replace a1 := Bool.eq_false_iff.2 a1
   rw [a1]
   have HA := am (show xbE x = false from a1)
   clear a1
   go_wp2_with fail
   have e := HST.out (180, (i : Int), 0) (by rw [chkGo, if_pos HA.out])
   rw [e]
   refine bodyPost_ret (results_tmp3 rfl _ _ _) rfl ⟨rfl, HB2.out⟩
  rw [a1]
  have HA := am (show xbE x = true from a1)
  clear a1
  by_cases a2 : addsB x.f0 = true
  ·
   go_wp2_with ((go_at_call 67; (with_reducible refine (xiK _ _).mono ?_); rintro e w' ⟨rfl, hw_⟩; obtain rfl := hw_.symm; rw [a2]))
   go_roundg (gk - 1)
   case measure => omega
   case rel => exact ⟨i + 1, m, most, by omega, by omega, rfl, rfl, by go_num, hm0, hm1, hs0, hs1, HB2, ⟨by rw [HC.out, HT.out, chkGo, if_neg (by rw [HA.out]; decide), if_pos a2]; rfl⟩⟩
  have ha2 := Bool.eq_false_iff.2 a2;have HA2 := am a2;clear a2
  by_cases a3 : x.f0 = 1
  ·
   have HA3 := am a3
   rw [a3] at c0
   have ha4 : addsB 1 = false := rfl
   rw [a3] at ha2
   clear a3
   have hw1 : IntKind.i64.wrap (m + 1) = m + 1 := by rw [i64_w]; unfold wrap64; omega
   have hmax : (if most < m + 1 then m + 1 else most) = max most (m + 1) := by rw [Int.max_def]; split <;> split <;> omega
   by_cases a4 : 63 < m + 1
   ·
    have u1 : decide (63 < m + 1) = true := decide_eq_true a4
    have HA4 := am a4;clear a4
    go_wp2_with ((go_at_call 67; (with_reducible refine (xiK _ _).mono ?_); rintro e w' ⟨rfl, hw_⟩; obtain rfl := hw_.symm; rw [ha2]))
    have e := HST.out (172, (i : Int), 0) (by rw [chkGo, if_neg (by rw [HA.out]; decide), if_neg HA2.out, if_pos HA3.out, if_pos HA4.out])
    rw [e]
    refine bodyPost_ret (results_tmp3 rfl _ _ _) rfl ⟨rfl, HB2.out⟩
   ·
    have u1 : decide (63 < m + 1) = false := decide_eq_false a4
    have HA4 := am a4;clear a4
    go_wp2_with ((go_at_call 67; (with_reducible refine (xiK _ _).mono ?_); rintro e w' ⟨rfl, hw_⟩; obtain rfl := hw_.symm; rw [ha2]))
    go_roundg (gk - 1)
    case measure => omega
    case rel => exact ⟨i + 1, m + 1, max most (m + 1), by omega, by omega, by first | rfl | simp [hmax], rfl, by go_num, by omega, by have := HA4.out; omega, by omega, by have := HA4.out; omega, HB2, ⟨by rw [HC.out, HT.out, chkGo, if_neg (by rw [HA.out]; decide), if_neg HA2.out, if_pos HA3.out, if_neg (by have := HA4.out; omega)]; rfl⟩⟩
  have t3 : (x.f0 == 1) = false := by rw [beq_eq_false_iff_ne]; exact a3
  have HA3 := am a3;clear a3
  by_cases a5 : m = 0
  ·
   have u1 : (m == 0) = true := beq_iff_eq.2 a5
   have HA5 := am a5;clear a5
   go_wp2_with ((go_at_call 67; (with_reducible refine (xiK _ _).mono ?_); rintro e w' ⟨rfl, hw_⟩; obtain rfl := hw_.symm; rw [ha2]))
   have e := HST.out (180, (i : Int), 0) (by rw [chkGo, if_neg (by rw [HA.out]; decide), if_neg HA2.out, if_neg HA3.out, if_pos HA5.out])
   rw [e]
   refine bodyPost_ret (results_tmp3 rfl _ _ _) rfl ⟨rfl, HB2.out⟩
  have u1 : (m == 0) = false := by rw [beq_eq_false_iff_ne]; exact a5
  have HA5 := am a5
  have hw1 : IntKind.i64.wrap (m - 1) = m - 1 := by rw [i64_w]; unfold wrap64; omega
  go_wp2_with ((go_at_call 67; (with_reducible refine (xiK _ _).mono ?_); rintro e w' ⟨rfl, hw_⟩; obtain rfl := hw_.symm; rw [ha2]))
  go_roundg (gk - 1)
  case measure => omega
  case rel => exact ⟨i + 1, m - 1, most, by omega, by omega, rfl, rfl, by go_num, by omega, by omega, hs0, hs1, HB2, ⟨by rw [HC.out, HT.out, chkGo, if_neg (by rw [HA.out]; decide), if_neg HA2.out, if_neg HA3.out, if_neg HA5.out]; rfl⟩⟩
theorem check31 (l : List S37) (A : Option Addr) (c : Nat) (w : World) (hk : KT w) (hr : Kd.C k37 w A l.length l) : Calls Tryz.prog 31 #[.slice A l.length c] w fun e w' => e = .returned (.tuple #[.int .i64 (chk l).1, .int .i64 (chk l).2.1]) ∧ Below w.heap.size w w' := by
 have HR := am hr;have HK := am hk;clear hr hk
 go_enter Tryz.func31, Tryz.ntmps31
 go_wp2_with (go_at_call 40; go_loud ((with_reducible refine (check_c _ _ _ _ HK.out HR.out).mono ?_); rintro e w1 ⟨rfl, hb⟩; have HB := am hb; clear hb))
 go_ret2
 exact ⟨rfl, HB.out⟩
def CkC (l : List S37) (ck : Int × Int) : Prop :=
  ∀ (w : World) (A : Option Addr) (c : Nat), KT w → Kd.C k37 w A l.length l → Calls Tryz.prog 31 #[.slice A l.length c] w fun e w' => e = .returned (.tuple #[.int .i64 ck.1, .int .i64 ck.2]) ∧ Below w.heap.size w w'
theorem xjF (l : List S37) : CkC l ((chk l).1, (chk l).2.1) := fun w A c hk hr => check31 l A c w hk hr
def st0 (l : List S37) : St := ⟨l, 0, [], [], false, 0⟩
theorem inv0 (l : List S37) : Inv (st0 l) :=
  ⟨⟨Nat.zero_le _, fun _ h => (by cases h), fun _ h => (by cases h), List.Pairwise.nil⟩, ⟨Int.le_refl _, by show (0 : Int) ≤ _; omega⟩, fun _ => rfl, Nat.zero_le _⟩
theorem Sl.ownF {α : Type} {d : Kd α} {e : TypeId} {w : World} {base : Nat} {F : Nat → Prop} {A : Option Addr} {c : Nat} {xs : List α} (h : Sl d e w base F A c xs) : Sl d e w base (own A) A c xs :=
  ⟨h.le, h.lim, h.row.imp_right (fun ⟨b, off, cur, inner, h1, h2, h3, h4, h5⟩ => ⟨b, off, cur, inner, h1, ⟨_, h1, rfl⟩, h3, h4, h5⟩)⟩
theorem Sl.xfB {α : Type} {d : Kd α} {e : TypeId} {w : World} {base : Nat} {F : Nat → Prop} {A : Option Addr} {c : Nat} {xs : List α} (h : Sl d e w base F A c xs) : ∀ k, own A k → base ≤ k ∧ k < w.heap.size := fun k hk => by
 obtain ⟨a, rfl, rfl⟩ := hk
 rcases h.row with ⟨h1, _⟩ | ⟨b, off, cur, inner, h1, _, h3, h4, _⟩
 ·
  cases h1
 ·
  injection h1 with h1; subst h1; exact ⟨h3, xaM h4⟩
section
variable {w : World} {l : List S37} {ck : Int × Int} {A : Option Addr} {c : Nat}
theorem xmG (hkt : KT w) (hr : Kd.C k37 w A l.length l) (hck : CkC l ck) (hne : ck.1 ≠ 0) :
  Calls Tryz.prog 14 #[.slice A l.length c] w fun e w' => e = .returned (.tuple #[.pointer none, .int .i64 ck.1, .int .i64 ck.2]) ∧ Below w.heap.size w w' := by
 unfold CkC at hck
 obtain ⟨e1, a1⟩ := ck
 simp only at hck hne ⊢
 have HCK := am hck;have HR := am hr;have HKT := am hkt
 have t1 : (e1 != 0) = true := by rw [bne, beq_eq_false_iff_ne.2 hne]; rfl
 clear hkt hck hr hne
 go_enter Tryz.func14, Tryz.ntmps14
 go_wp2_with (go_at_call 31; go_loud ((with_reducible refine (HCK.out _ _ _ HKT.out HR.out).mono ?_); rintro e w1 ⟨rfl, hb⟩; have HB := am hb; clear hb))
 refine bodyPost_ret (results_tmp3 rfl _ _ _) rfl ⟨rfl, HB.out⟩
theorem new_ok (hkt : KT w) (hr : Kd.C k37 w A l.length l) (hck : CkC l ck) (he : ck.1 = 0) (hl : l.length ≤ 8192) :
  Calls Tryz.prog 14 #[.slice A l.length c] w fun e w' => ∃ gn A1 c1, e = .returned (.tuple #[.pointer (some ⟨gn, 0, none⟩), .int .i64 0, .int .i64 0]) ∧ Below w.heap.size w w' ∧ Mx w' w.heap.size gn (fun k => k = gn) A1 c1 none 0 none 0 (st0 l) ∧ (∀ k, own A1 k → w.heap.size ≤ k) := by
 unfold CkC at hck
 obtain ⟨e1, a1⟩ := ck
 simp only at hck he
 subst he;have HCK := am hck;have HR := am hr;have HKT := am hkt;have HL := am hl;clear hkt hck hr hl
 go_enter Tryz.func14, Tryz.ntmps14
 go_wp2_with (first | (go_at_call 31; go_loud ((with_reducible refine (HCK.out _ _ _ HKT.out HR.out).mono ?_); rintro e w1 ⟨rfl, hb⟩; have HB := am hb; clear hb)) | (go_at_call 32; go_loud ((with_reducible refine (clone_op _ _ _ _ (Kd.xaQ HR.out HB.out) (by have := HL.out; omega)).mono ?_); rintro e w2 ⟨v, rfl, hr, hb⟩; obtain ⟨A1, k1, rfl, hs⟩ := Sl.of_R hr; have HS := am hs; have HB2 := am (HB.out.trans (hb.mono HB.out.size)); have HSB := am hb.size; clear hr hs hb)))
 have hz1 := HB.out.size;have hz2 := HSB.out
 refine bodyPost_ret (results_tmp3 rfl _ _ _) rfl ⟨w2.heap.size, A1, k1, rfl, xaH HB2.out _, ⟨xbF _ _, ?_, Sl.nil _ _ _ _ _, Sl.nil _ _ _ _ _, rfl, fun k hk => ⟨?_, ?_⟩, fun k hk hF => ?_⟩, fun k hk => ?_⟩
 ·
  exact ((HS.out.xlB hz1).ownF).below (xaH (Below.refl _ _) _)
 ·
  subst hk; omega
 ·
  subst hk; simp
 ·
  have := (HS.out.xfB k hk).2; omega
 ·
  have := (HS.out.xfB k hk).1; omega
def runT (fxs : S37 → List S48 × Int) (ck : Int × Int) (l : List S37) : List S48 × Int := if ck.1 = 0 then xcD (stepM fxs (st0 l) 8193).2.2 else ([], ck.1)
theorem run_ok (hkt : KT w) (fxs : S37 → List S48 × Int) (hr : Kd.C k37 w A l.length l) (hck : CkC l ck) (hg : ck.1 = 0 → Good fxs l) :
  Calls Tryz.prog 10 #[.slice A l.length c] w fun e w' => ∃ A1 c1, e = .returned (.tuple #[.slice A1 (runT fxs ck l).1.length c1, .int .i64 (runT fxs ck l).2]) ∧ Sl k48 48 w' w.heap.size (fun _ => True) A1 c1 (runT fxs ck l).1 ∧ Below w.heap.size w w' := by
 have HR := am hr;have HKT := am hkt;have HCK := am hck
 by_cases he : ck.1 = 0
 ·
  have hgd := hg he;have HGD := am hgd;have HE := am he
  have e1 : runT fxs ck l = xcD (stepM fxs (st0 l) 8193).2.2 := by unfold runT; rw [if_pos he]
  rw [e1]
  have HSI := am (xhC (s := st0 l) hgd (inv0 l) 8193)
  generalize hst : stepM fxs (st0 l) 8193 = r at *
  have HST := am hst;clear hkt hr hck hg he hgd e1 hst
  go_enter Tryz.func10, Tryz.ntmps10
  go_wp2_with (first | (go_at_call 14; go_loud ((with_reducible refine (new_ok HKT.out HR.out HCK.out HE.out HGD.out.len).mono ?_); rintro e w1 ⟨gn, A1, k1, rfl, hb, hx, ho⟩; have HB := am hb; have HX := am hx; clear hb hx ho)) | (go_at_call 16; go_loud ((with_reducible refine (step_ok HX.out HGD.out (inv0 l) 8193 (by omega)).mono ?_); rintro e w2 ⟨rfl, hf, A2, n2, A3, n3, hm⟩; rw [HST.out] at hm; have HF := am hf; have HM := am hm; clear hf hm)) | (go_at_call 17; go_loud ((with_reducible refine (xhG HM.out HSI.out.1.ok.len).mono ?_); rintro e w3 ⟨A4, n4, rfl, hs, hb⟩; have HS := am hs; have HB3 := am hb; clear hs hb)))
  go_ret2
  have hz := HX.out.xbJ;have hz2 := HF.out.size
  have hb2 : Below w.heap.size w w2 := HB.out.trans (HF.out.xdM hz (fun k hk => (HX.out.hF k hk).1))
  exact ⟨A4, n4, rfl, HS.out.xlB hb2.size, hb2.trans (HB3.out.mono hb2.size)⟩
 ·
  have e1 : runT fxs ck l = ([], ck.1) := by unfold runT; rw [if_neg he]
  have HE := am he
  have t1 : (ck.1 != 0) = true := by rw [bne, beq_eq_false_iff_ne.2 he]; rfl
  rw [e1]
  clear hkt hr hck hg he e1
  go_enter Tryz.func10, Tryz.ntmps10
  go_wp2_with (go_at_call 14; go_loud ((with_reducible refine (xmG HKT.out HR.out HCK.out HE.out).mono ?_); rintro e w1 ⟨rfl, hb⟩; have HB := am hb; clear hb))
  go_ret2
  exact ⟨none, 0, rfl, Sl.nil _ _ _ _ _, HB.out⟩
end
theorem sis_yes (x : Int) (w : World) (h0 : 0 ≤ x) (h1 : x ≤ 109572) : Calls Tryz.prog 184 #[.int .i64 x] w fun e w' => e = .returned (.bool true) ∧ w' = w := by
 have t1 : decide (x ≥ 0) = true := decide_eq_true h0
 have t2 : decide (x ≤ 109572) = true := decide_eq_true h1
 go_enter Tryz.func184, Tryz.ntmps184
 go_wp2
 go_ret
 exact ⟨rfl, rfl⟩
theorem sin_yes (x lo hi : Int) (w : World) (h0 : lo ≤ x) (h1 : x ≤ hi) : Calls Tryz.prog 185 #[.int .i64 x, .int .i64 lo, .int .i64 hi] w fun e w' => e = .returned (.bool true) ∧ w' = w := by
 have t1 : decide (x ≥ lo) = true := decide_eq_true h0
 have t2 : decide (x ≤ hi) = true := decide_eq_true h1
 go_enter Tryz.func185, Tryz.ntmps185
 go_wp2
 go_ret
 exact ⟨rfl, rfl⟩
theorem check_s (a b n : Int) (w : World) (h : SpO a b n) : Calls Tryz.prog 172 #[spV a b n] w fun e w' => e = .returned (.int .i64 0) ∧ Below w.heap.size w w' := by
 unfold spV
 obtain ⟨⟨h1, h2, h3⟩, h4, h5⟩ := h
 have h6 : a ≤ 109572 := by omega
 have h7 : 0 ≤ b := by omega
 have t1 : decide (a ≥ b) = false := decide_eq_false (by omega)
 have HB : xaA (Below w.heap.size w w) := ⟨Below.refl _ _⟩
 have HD := am sis_yes;have HI := am sin_yes;clear h2
 go_enter Tryz.func172, Tryz.ntmps172
 go_upto_region 1 with ((with_reducible refine xaJ (N := 1) rfl ?_); refine bxv 1 #[.int .i64 a, .int .i64 b, .int .i64 n, .int .i64 3, .int .i64 1, .int .i64 0, .int .i64 0, .int .i64 0, .int .i64 0, .slice none 0 0] 117 ?_; intro c hg w1 hbox hb; have Bc := am hbox; have HBc := HB; replace HB := am (xaC HB.out hb); have HGc := am hg; have HLc := am (xaM hbox); clear hb hbox hg)
 have cc_ := ce10 Bc
 go_wp2_with (first | (go_at_call 184; go_loud ((with_reducible refine (HD.out _ _ (by first | decide | assumption) (by first | decide | assumption)).mono ?_); rintro y w2 ⟨rfl, hw_⟩; obtain rfl := hw_.symm)) | (go_at_call 185; go_loud ((with_reducible refine (HI.out _ _ _ _ (by first | decide | assumption) (by first | decide | assumption)).mono ?_); rintro y w2 ⟨rfl, hw_⟩; obtain rfl := hw_.symm)) | (go_at_call 178; go_loud ((with_reducible refine (xiH _ _ _).mono ?_); rintro y w3 ⟨rfl, hb⟩; replace HB := am (xaC HB.out hb); clear hb)))
 go_ret
 exact ⟨rfl, HB.out⟩
theorem civ_any (n : Int) (w : World) : Calls Tryz.prog 186 #[.int .i64 n] w fun e w' => ∃ y m d er, e = .returned (.tuple #[.int .i64 y, .int .i64 m, .int .i64 d, .int .i64 er]) ∧ Below w.heap.size w w' := by
  obtain ⟨k, hk⟩ := L.Civil n
  exact (xbH.calls k _ _ _ _ _ w (hk k (Nat.le_refl _))).mono (fun e w' h => ⟨_, _, _, _, h.1, h.2.below⟩)
theorem point_s (a b n x k : Int) (w : World) (h : SpO a b n) (hx : 0 ≤ x ∧ x ≤ 109572) (hk : -200000 ≤ k ∧ k ≤ 200000) : Calls Tryz.prog 173 #[spV a b n, .int .i64 x, .int .i64 k] w fun e w' => e = .returned (.tuple #[.int .i64 (told (ptF n x k)).1, .bool (told (ptF n x k)).2]) ∧ Below w.heap.size w w' := by
 have hkn := mul_rng (k := k) (n := n) (c := 200000) (by decide) hk.1 hk.2 h.n.1 h.n.2
 have hw : IntKind.i64.wrap (k * n) = k * n := by rw [i64_w]; unfold wrap64; omega
 have m1 : ¬ k < -1048576 := by omega
 have m2 : ¬ 1048576 < k := by omega
 have hmo : M.xdX x (k * n) false = if M.xcB x (k * n) then ((M.xdX x (k * n) false).1, 0) else (0, 51) := by
  unfold M.xdX
  rw [if_pos hx]
  split <;> rfl
 have hms : ∀ w, Calls Tryz.prog 79 #[.int .i64 x, .int .i64 (k * n), .bool false] w fun e w' => e = .returned (.tuple #[.int .i64 (M.xdX x (k * n) false).1, .int .i64 (M.xdX x (k * n) false).2]) ∧ Below w.heap.size w w' := fun w => by
  obtain ⟨q, hq⟩ := L.Months x (k * n) false
  exact (xbA.calls q _ _ _ _ _ w (hq q (Nat.le_refl _))).mono (fun e w' h => ⟨h.1, h.2.below⟩)
 have HB : xaA (Below w.heap.size w w) := ⟨Below.refl _ _⟩
 unfold ptF
 rw [hmo] at hms
 clear h hx hk hkn hmo
 unfold spV
 generalize (M.xdX x (k * n) false).1 = mr at *
 by_cases hok : M.xcB x (k * n)
 all_goals
  first | rw [if_pos hok] at hms ⊢ | rw [if_neg hok] at hms ⊢
  have HMS := am hms;clear hok hms
  go_enter Tryz.func173, Tryz.ntmps173
  go_upto_region 1 with ((with_reducible refine xaJ (N := 3) rfl ?_); refine bxv 3 #[.int .i64 a, .int .i64 b, .int .i64 n, .int .i64 3, .int .i64 1, .int .i64 0, .int .i64 0, .int .i64 0, .int .i64 0, .slice none 0 0] 117 ?_; intro c hg w1 hbox hb; have Bc := am hbox; have HBc := HB; replace HB := am (xaC HB.out hb); have HGc := am hg; have HLc := am (xaM hbox); clear hb hbox hg)
  have cc_ := ce10 Bc
  go_upto_region 9 with fail
  skip
  go_wp2_with (first | (go_at_call 79; go_loud ((with_reducible refine (HMS.out _).mono ?_); rintro y w2 ⟨rfl, hb⟩; replace HB := am (xaC HB.out hb); replace Bc := am (xaD Bc.out hb); clear hb; clear cc_; have cc_ := ce10 Bc)) | (go_at_call 186; go_loud ((with_reducible refine (civ_any _ _).mono ?_); rintro z w3 ⟨y, m, d, er, rfl, hb⟩; replace HB := am (xaC HB.out hb); replace Bc := am (xaD Bc.out hb); clear hb; clear cc_; have cc_ := ce10 Bc)))
  go_ret2
  exact ⟨rfl, HB.out⟩
section
variable {P : Program} {ops : Array Oper} {Q : Exit → Act → World → Prop} {rest : List Oper} {o : Oper} {a : Act} {w w0 : World} {α : Type} {d : Kd α} {e : TypeId} {A : Option Addr} {c : Nat} {xs : List α} {Kc : Act → World → Prop}
abbrev Own (d : Kd α) (e : TypeId) (w0 w : World) (A : Option Addr) (c : Nat) (xs : List α) : Prop := Sl d e w w0.heap.size (fun _ => True) A c xs
def Keeps (e : TypeId) (w w1 : World) : Prop := ∀ (g : Nat) (cs : Array Value) (t : TypeId), e ≠ t → w.heap[g]? = some (.cells cs t (0, 0)) → w1.heap[g]? = some (.cells cs t (0, 0))
theorem Sl.app [Flat d] (hgd : o.guard = none) (s x : Operand) (t : TypeId) (z : Value) (bytes : Nat) (ho : o.op = .call { callee := .builtin .append, args := #[s, x], argTypes := #[t, t] }) (ht : P.underlying t = some (.slice e)) (hinfo : (P.info? e).map (fun i => (i.zero, i.size, i.bytes)) = some (some z, d.sz, bytes)) (hz : z.cells.size = d.sz) (hs0 : 0 < d.sz) (hb0 : 0 < bytes)
  {A' : Option Addr} {m c' : Nat} {ys : List α} {n : Nat} (hn : n = xs.length) (hs : a.eval s = .slice A n c) (hx : a.eval x = .slice A' m c') (h : Own d e w0 w A c xs) (hB : Below w0.heap.size w0 w) (hy : Kd.C d w A' m ys) (hl : (n + m) * bytes ≤ 140737488355328)
  (hk : ∀ A1 c1 w1, Own d e w0 w1 A1 c1 (xs ++ ys) → Below w0.heap.size w0 w1 → Keeps e w w1 → wpList P ops Q rest (a.put o.dst (.slice A1 (n + m) c1)) w1) : wpList P ops Q (o :: rest) a w := by
 subst hn
 exact Sl.xkQ hgd s x t z bytes ho ht hinfo hz hs0 hb0 hs hx h hy hB.size hl (fun A1 c1 w1 h1 hf _ => hk A1 c1 w1 (h1.mono (fun _ _ _ => trivial)) (hB.trans (hf.xdM hB.size (fun k hk => (h.xfB k hk).1))) (fun g cs t' hne hg => (hf.block g (xaM hg) (h.xeK hg hne)).trans hg))
theorem Sl.app1 [Flat d] (hgd : o.guard = none) (s x : Operand) (t : TypeId) (z : Value) (bytes : Nat) (ho : o.op = .call { callee := .builtin .append, args := #[s, x], argTypes := #[t, t] }) (ht : P.underlying t = some (.slice e)) (hinfo : (P.info? e).map (fun i => (i.zero, i.size, i.bytes)) = some (some z, d.sz, bytes)) (hz : z.cells.size = d.sz) (hs0 : 0 < d.sz) (hb0 : 0 < bytes)
  {p : α} {cs : List Value} (hp : d.K w p cs) {n : Nat} (hn : n = xs.length) (hs : a.eval s = .slice A n c) (hx : a.eval x = .slice (some ⟨w.heap.size, 0, none⟩) 1 1) (h : Own d e w0 w A c xs) (hB : Below w0.heap.size w0 w) (hl : (n + 1) * bytes ≤ 140737488355328)
  (hk : ∀ A1 c1 w1, Own d e w0 w1 A1 c1 (xs ++ [p]) → Below w0.heap.size w0 w1 → Keeps e w w1 → wpList P ops Q rest (a.put o.dst (.slice A1 (n + 1) c1)) w1) : wpList P ops Q (o :: rest) a (w.alloc (.cells cs.toArray e)) :=
 Sl.app hgd s x t z bytes ho ht hinfo hz hs0 hb0 hn hs hx (h.below (xaH (Below.refl _ _) _)) (xaH hB _) (lit_C hp) hl (fun A1 c1 w1 h1 h2 h3 => hk A1 c1 w1 h1 h2 (fun g cs t' hne hg => h3 g cs t' hne (xaT hg _)))
theorem Sl.xlY [Flat d] (hw : Region.wanted o (yielded ops a.tmps) = true) (s x : Operand) (t : TypeId) (z : Value) (bytes : Nat) (ho : o.op = .call { callee := .builtin .append, args := #[s, x], argTypes := #[t, t] }) (ht : P.underlying t = some (.slice e)) (hinfo : (P.info? e).map (fun i => (i.zero, i.size, i.bytes)) = some (some z, d.sz, bytes)) (hz : z.cells.size = d.sz) (hs0 : 0 < d.sz) (hb0 : 0 < bytes)
  {p : α} {cs : List Value} (hp : d.K w p cs) {n : Nat} {E : Prop} (hn : n = xs.length) (hs : a.eval s = .slice A n c) (hx : a.eval x = .slice (some ⟨w.heap.size, 0, none⟩) 1 1) (h : Own d e w0 w A c xs) (hB : Below w0.heap.size w0 w) (hl : (n + 1) * bytes ≤ 140737488355328)
  (hk : ∀ A1 c1 w1, Own d e w0 w1 A1 c1 (xs ++ [p]) → Below w0.heap.size w0 w1 → Keeps e w w1 → Kc (a.put o.dst (.slice A1 (n + 1) c1)) w1) :
  if Region.wanted o (yielded ops a.tmps) = true then Oper.wp P o a (w.alloc (.cells cs.toArray e)) Kc Q else E := by
 subst hn
 have h' : Own d e w0 (w.alloc (.cells cs.toArray e)) A c xs := h.below (xaH (Below.refl _ _) _)
 have hB' : Below w0.heap.size w0 (w.alloc (.cells cs.toArray e)) := xaH hB _
 exact Sl.xfA hw s x t z bytes ho ht hinfo hz hs0 hb0 hs hx h' (lit_C hp) hB'.size hl (fun A1 c1 w1 h1 hf _ => hk A1 c1 w1 (h1.mono (fun _ _ _ => trivial)) (hB'.trans (hf.xdM hB'.size (fun k hk => (h'.xfB k hk).1))) (fun g cs t' hne hg => (hf.block g (xaM (xaT hg _)) (h'.xeK (xaT hg _) hne)).trans (xaT hg _)))
theorem Sl.app_s [Flat d] (hw : Region.wanted o (yielded ops a.tmps) = true) (s x : Operand) (t : TypeId) (z : Value) (bytes : Nat) (ho : o.op = .call { callee := .builtin .append, args := #[s, x], argTypes := #[t, t] }) (ht : P.underlying t = some (.slice e)) (hinfo : (P.info? e).map (fun i => (i.zero, i.size, i.bytes)) = some (some z, d.sz, bytes)) (hz : z.cells.size = d.sz) (hs0 : 0 < d.sz) (hb0 : 0 < bytes)
  {A' : Option Addr} {m c' : Nat} {ys : List α} {n : Nat} {E : Prop} (hn : n = xs.length) (hs : a.eval s = .slice A n c) (hx : a.eval x = .slice A' m c') (h : Own d e w0 w A c xs) (hB : Below w0.heap.size w0 w) (hy : Kd.C d w A' m ys) (hl : (n + m) * bytes ≤ 140737488355328)
  (hk : ∀ A1 c1 w1, Own d e w0 w1 A1 c1 (xs ++ ys) → Below w0.heap.size w0 w1 → Keeps e w w1 → Kc (a.put o.dst (.slice A1 (n + m) c1)) w1) :
  if Region.wanted o (yielded ops a.tmps) = true then Oper.wp P o a w Kc Q else E := by
 subst hn
 exact Sl.xfA hw s x t z bytes ho ht hinfo hz hs0 hb0 hs hx h hy hB.size hl (fun A1 c1 w1 h1 hf _ => hk A1 c1 w1 (h1.mono (fun _ _ _ => trivial)) (hB.trans (hf.xdM hB.size (fun k hk => (h.xfB k hk).1))) (fun g cs t' hne hg => (hf.block g (xaM hg) (h.xeK hg hne)).trans hg))
theorem Sl.one [Flat d] {p : α} {cs : List Value} (hp : d.K w p cs) (hcs : cs.length = d.sz) : Own d e w (w.alloc (.cells cs.toArray e)) (some ⟨w.heap.size, 0, none⟩) 1 [p] :=
 ⟨Nat.le_refl _, by simp, Or.inr ⟨w.heap.size, 0, cs.toArray, cs, rfl, trivial, Nat.le_refl _, xbF w _, by simp [hcs], ⟨by simp [hcs], fun j q hj => by
  match j, hj with
  | 0, hj => injection hj with hj; subst hj; rw [Nat.zero_mul, List.drop_zero, ← hcs, List.take_length]; exact Flat.K hp⟩, by simp [← hcs]⟩⟩
end
theorem p_facts {n0 : Nat} (h : n0 ≤ 1199) : ∃ K M : Int, K = (n0 : Int) + 1 ∧ M = -1 * ((n0 : Int) + 1) ∧ IntKind.i64.wrap ((n0 : Int) + 1) = K ∧ IntKind.i64.wrap (-1 * K) = M ∧ IntKind.i64.wrap (-K) = M ∧ (-200000 ≤ M ∧ M ≤ 200000) ∧ IntKind.i64.wrap ((n0 : Int) + 2) = (n0 : Int) + 2 := by
  refine ⟨_, _, rfl, rfl, ?_, ?_, ?_, ⟨by omega, by omega⟩, ?_⟩
  all_goals rw [i64_w]; unfold wrap64; omega
theorem dates_s (a b n : Int) (w : World) (h : SpO a b n) : Calls Tryz.prog 162 #[spV a b n] w fun e w' => ∃ A c, e = .returned (.tuple #[.slice A (xbR a b n).1.length c, .int .i64 (xbR a b n).2]) ∧ Own (Kd.int .i64) 3 w w' A c (xbR a b n).1 ∧ Below w.heap.size w w' := by
 have HCK := am (fun w => check_s a b n w h)
 have HPT : xaA (∀ k w, -200000 ≤ k → k ≤ 200000 → Calls Tryz.prog 173 #[spV a b n, .int .i64 b, .int .i64 k] w fun e w' => e = .returned (.tuple #[.int .i64 (told (ptF n b k)).1, .bool (told (ptF n b k)).2]) ∧ Below w.heap.size w w') := ⟨fun k w h1 h2 => point_s a b n b k w h (by have := h.ab; omega) ⟨h1, h2⟩⟩
 unfold xbR
 have HB : xaA (Below w.heap.size w w) := ⟨Below.refl _ _⟩
 have HIN := am (in_start a b n)
 unfold spV at *
 clear h
 go_enter Tryz.func162, Tryz.ntmps162
 go_upto_region 1 with ((with_reducible refine xaJ (N := 1) rfl ?_); refine bxv 1 #[.int .i64 a, .int .i64 b, .int .i64 n, .int .i64 3, .int .i64 1, .int .i64 0, .int .i64 0, .int .i64 0, .int .i64 0, .slice none 0 0] 117 ?_; intro c hg w1 hbox hb; have Bc := am hbox; have HBc := HB; replace HB := am (xaC HB.out hb); have HGc := am hg; have HLc := am (xaM hbox); clear hb hbox hg)
 have cc_ := ce10 Bc
 go_step3
 go_upto_if 20 with (go_at_call 172; go_loud ((with_reducible refine (HCK.out _).mono ?_); rintro y w2 ⟨rfl, hb⟩; replace HB := am (xaC HB.out hb); replace Bc := am (xaD Bc.out hb); clear hb))
 clear cc_;have cc_ := ce10 Bc
 skip
 go_wp2_with fail
 go_quiet (fail)
 clear cc_
 replace HB := am (xaG HB.out nq)
 replace Bc := am (xaZ Bc.out nq)
 generalize w2.drewN nq = w3 at *
 have cc_ := ce10 Bc
 go_wp2_with fail
 go_quiet (fail)
 clear cc_
 replace HB := am (xaG HB.out nq)
 replace Bc := am (xaZ Bc.out nq)
 generalize w3.drewN nq = w4 at *
 have cc_ := ce10 Bc
 skip
 go_wp2_with fail
 go_step3
 go_upto_block 0 with fail
 skip
 clear cc_
 go_cut [9] from 39 to 83 (fun v9 w' => ∃ (A : Option Addr) (cc : Nat) (l : List Int) (n0 : Nat), v9 = .slice A n0 cc ∧ xaA (n0 = l.length) ∧ xaA (n0 ≤ 1199) ∧ xaA (Own (Kd.int .i64) 3 w w' A cc l) ∧ xaA (w'.heap[c]? = some (.cells #[.int .i64 a, .int .i64 b, .int .i64 n, .int .i64 3, .int .i64 1, .int .i64 0, .int .i64 0, .int .i64 0, .int .i64 0, .slice none 0 0] 117 (0, 0))) ∧ xaA (Below w.heap.size w w') ∧ xaA (innF a b n = some l))
 case first =>
  go_wp2_with fail
  go_loopg [9, 10, 39] 1200 (fun kq v9 v10 v39 w' => ∃ (A : Option Addr) (cc : Nat) (l : List Int) (n0 : Nat), kq = 1200 - n0 ∧ v9 = .slice A n0 cc ∧ v10 = .bool false ∧ v39 = .int .i64 (n0 : Int) ∧ xaA (n0 = l.length) ∧ xaA (n0 ≤ 1199) ∧ xaA (Own (Kd.int .i64) 3 w w' A cc l) ∧ xaA (w'.heap[c]? = some (.cells #[.int .i64 a, .int .i64 b, .int .i64 n, .int .i64 3, .int .i64 1, .int .i64 0, .int .i64 0, .int .i64 0, .int .i64 0, .slice none 0 0] 117 (0, 0))) ∧ xaA (Below w.heap.size w w') ∧ xaA (InI a b n l))
  case atStart => exact ⟨none, 0, [], 0, rfl, rfl, rfl, rfl, ⟨rfl⟩, ⟨by decide⟩, ⟨Sl.nil _ _ _ _ _⟩, Bc, HB, HIN⟩
  case round =>
   obtain ⟨A, cc, l, n0, hk, rfl, rfl, rfl, HN, HN1, HS, Bc, HB, HI⟩ := hrel
   obtain ⟨K, M, e1, e2, a1, a2, a3, a4, a5⟩ := p_facts HN1.out
   obtain ⟨⟨v, ok⟩, ht⟩ : ∃ p, told (ptF n b M) = p := ⟨_, rfl⟩
   have hp := HPT.out M
   rw [ht] at hp
   rw [e2, HN.out] at ht
   have hr := in_round HI.out ht;have HP := am hp
   obtain ⟨m1, m2⟩ := a4
   have t4 : decide ((n0 : Int) < 1201) = true := decide_eq_true (by have := HN1.out; omega)
   have HA5 := am a5
   have HK : xaA (K = ((n0 + 1 : Nat) : Int)) := ⟨by omega⟩
   clear e1 e2 ht hp HI a5;have cc_ := ce10 Bc
   rcases hr with ⟨rfl, hev⟩ | ⟨rfl, hva, hev⟩ | ⟨rfl, hva, hll, hev⟩ | ⟨rfl, hva, hll, hin⟩
   ·
    have HEV := am hev;clear hev
    go_wp2_with (go_at_call 173; go_loud ((with_reducible refine (HP.out _ m1 m2).mono ?_); rintro y w4 ⟨rfl, hb⟩; replace HS := am (HS.out.below hb); replace HB := am (xaC HB.out hb); replace Bc := am (xaD Bc.out hb); clear hb; clear cc_))
    skip
    go_meet
    case rel => exact ⟨A, cc, l, n0, rfl, HN, HN1, HS, Bc, HB, HEV⟩
   ·
    have HEV := am hev
    have t5 : decide (v < a) = !decide (v = a) := by by_cases h : v = a <;> simp [h] <;> omega
    clear hev hva
    by_cases hva : v = a
    all_goals
     first | (have t6 : (v == a) = true := beq_iff_eq.2 hva) | (have t6 : (v == a) = false := beq_eq_false_iff_ne.2 hva)
     first | rw [decide_eq_true hva] at t5 | rw [decide_eq_false hva] at t5
     clear hva
     go_wp2_with (go_at_call 173; go_loud ((with_reducible refine (HP.out _ m1 m2).mono ?_); rintro y w4 ⟨rfl, hb⟩; replace HS := am (HS.out.below hb); replace HB := am (xaC HB.out hb); replace Bc := am (xaD Bc.out hb); clear hb; clear cc_))
     skip
     go_meet
     case rel => exact ⟨A, cc, l, n0, rfl, HN, HN1, HS, Bc, HB, HEV⟩
   ·
    have HEV := am hev
    have t5 : decide (v < a) = false := decide_eq_false (by omega)
    have t6 : (v == a) = false := beq_eq_false_iff_ne.2 (by omega)
    have t7 : decide ((n0 : Int) + 2 > 1200) = true := decide_eq_true (by have := HN.out; omega)
    have a5 := HA5.out;clear hev hva hll
    go_wp2_with (go_at_call 173; go_loud ((with_reducible refine (HP.out _ m1 m2).mono ?_); rintro y w4 ⟨rfl, hb⟩; replace HS := am (HS.out.below hb); replace HB := am (xaC HB.out hb); replace Bc := am (xaD Bc.out hb); clear hb; clear cc_))
    skip
    rw [Go.Exit.noGoto_ret]
    go_ret2
    exact ⟨none, 0, by rw [HEV.out]; first | done | rfl, by rw [HEV.out]; exact Sl.nil _ _ _ _ _, HB.out⟩
   ·
    have HIN := am hin
    have t5 : decide (v < a) = false := decide_eq_false (by omega)
    have t6 : (v == a) = false := beq_eq_false_iff_ne.2 (by omega)
    have t7 : decide ((n0 : Int) + 2 > 1200) = false := decide_eq_false (by have := HN.out; omega)
    have a5 := HA5.out
    have a6 : IntKind.i64.wrap ((n0 : Int) + 1) = ((n0 + 1 : Nat) : Int) := by rw [i64_w]; unfold wrap64; have := HN1.out; omega
    have HR : xaA (1200 - (n0 + 1) < gk ∧ n0 + 1 ≤ 1199) := ⟨by have := HN.out; omega⟩
    clear hin hva hll hk
    go_wp2_with (first | (go_at_call 173; go_loud ((with_reducible refine (HP.out _ m1 m2).mono ?_); rintro y w4 ⟨rfl, hb⟩; replace HS := am (HS.out.below hb); replace HB := am (xaC HB.out hb); replace Bc := am (xaD Bc.out hb); clear hb; clear cc_)) | ((with_reducible refine xaR (b := .append) (xs := #[.tmp 79, .tmp 81]) rfl ?_); go_loud (refine Sl.app1 rfl (.tmp 79) (.tmp 81) 49 (.int .i64 0) 8 rfl Tryz.underlying49 info3 rfl (by decide) (by omega) (d := Kd.int .i64) (p := v) (cs := [.int .i64 v]) (show (Kd.int .i64).K _ v [.int .i64 v] from rfl) HN.out rfl rfl HS.out HB.out (by have := HN1.out; omega) ?_; intro A4 c4 w5 hs5 hb5 hk5; replace Bc := am (hk5 c _ _ (by decide) Bc.out); replace HS := am hs5; replace HB := am hb5; clear hs5 hb5 hk5)))
    skip
    go_roundg (1200 - (n0 + 1))
    case measure => exact HR.out.1
    case rel => exact ⟨A4, c4, l ++ [v], n0 + 1, rfl, rfl, rfl, by first | rfl | rw [HK.out] | rw [a6], ⟨by rw [List.length_append, List.length_singleton, HN.out]⟩, ⟨HR.out.2⟩, HS, Bc, HB, HIN⟩
 case rest =>
  clear Bc HB
  obtain ⟨A, cc, l, n0, rfl, HN, HN1, HS, Bc, HB, HEV⟩ := hcut
  have HCL := am (Sl.C HS.out)
  have hsz := am HB.out.size
  have hw2 : IntKind.i64.wrap ((n0 : Int) + 2) = (n0 : Int) + 2 := by rw [i64_w]; unfold wrap64; have := HN1.out; omega
  have HWC : xaA (Below wc.heap.size wc wc) := ⟨Below.refl _ _⟩
  have cc_ := ce10 Bc
  skip
  go_upto_region 26 with ((with_reducible refine xaJ (N := 110) rfl ?_); refine Kd.xgT (Kd.int .i64) (w0 := wc) wc.heap.size 3 rfl (N := 110) rfl 49 _ _ rfl ((n0 : Int) + 2) rfl rfl Tryz.underlying49 (.int .i64 0) 8 info3 rfl (by decide) (by omega) (0 : Int) (ok := fun _ => True) (okp := fun _ => True) rfl (fun _ hk => hk) trivial (by omega) (by have := HN1.out; omega) (by repeat (first | exact Below.refl _ _ | apply xaG | apply xaK)) (by simp) ?_; intro v0 w5 ho hb hg_ hnew_; clear hg_ hnew_; obtain ⟨A5, c5, rfl, hs5⟩ := Sl.of_R ho; have HO := am hs5; have HW := am hb; replace Bc := am (xaD Bc.out hb); clear ho hb hs5)
  skip
  clear cc_;have cc_ := ce10 Bc
  go_upto_region 28 with ((with_reducible refine xaR (b := .append) (xs := #[.tmp 111, .tmp 114]) rfl ?_); go_loud (refine Sl.app1 rfl (.tmp 111) (.tmp 114) 49 (.int .i64 0) 8 rfl Tryz.underlying49 info3 rfl (by decide) (by omega) (d := Kd.int .i64) (p := a) (cs := [.int .i64 a]) (show (Kd.int .i64).K _ a [.int .i64 a] from rfl) (show 0 = (List.replicate 0 (0 : Int)).length from rfl) rfl rfl HO.out HW.out (by omega) ?_; intro A6 c6 w6 hs6 hb6 hk6; replace Bc := am (hk6 c _ _ (by decide) Bc.out); replace HO := am hs6; replace HW := am hb6; clear hs6 hb6 hk6))
  skip
  clear cc_
  go_loopg [15, 118] n0 (fun kq v15 v118 w' => ∃ (i : Nat) (A2 : Option Addr) (c2 : Nat), kq + i = n0 ∧ i ≤ n0 ∧ v15 = .slice A2 (i + 1) c2 ∧ v118 = .int .i64 (i : Int) ∧ xaA (Own (Kd.int .i64) 3 wc w' A2 c2 (a :: l.reverse.take i)) ∧ xaA (w'.heap[c]? = some (.cells #[.int .i64 a, .int .i64 b, .int .i64 n, .int .i64 3, .int .i64 1, .int .i64 0, .int .i64 0, .int .i64 0, .int .i64 0, .slice none 0 0] 117 (0, 0))) ∧ xaA (Below wc.heap.size wc w'))
  case atStart => exact ⟨0, _, _, Nat.add_zero _, Nat.zero_le _, rfl, rfl, HO, Bc, HW⟩
  case round =>
   obtain ⟨i, A2, c2, hk2, hi, rfl, rfl, HO, Bc, HW⟩ := hrel
   have HLN : xaA (i + 1 = (a :: l.reverse.take i).length) := ⟨by rw [List.length_cons, List.length_take, List.length_reverse, ← HN.out, Nat.min_eq_left hi]⟩
   by_cases hlt : i < n0
   ·
    have t5 : decide (i < n0) = true := decide_eq_true hlt
    obtain ⟨q, j, b1, b2, hj, htk, b3⟩ := xhR HN.out hlt (by have := HN1.out; omega)
    obtain ⟨ad, e, hcell⟩ := at_i (Kd.xaQ HCL.out HW.out) j (by have := HN.out; omega)
    subst e
    obtain ⟨x, hx⟩ : ∃ x, x = l.getD j 0 := ⟨_, rfl⟩
    rw [← hx] at hcell htk
    have HT := am htk
    have HM2 : xaA (n0 - (i + 1) < gk ∧ n0 - (i + 1) + (i + 1) = n0 ∧ i + 1 ≤ n0) := ⟨by omega⟩
    have HI2 := am hi;clear hx htk hk2 hlt hi
    go_wp2_with ((with_reducible refine xaR (b := .append) (xs := #[.tmp 127, .tmp 132]) rfl ?_); go_loud (refine Sl.app1 rfl (.tmp 127) (.tmp 132) 49 (.int .i64 0) 8 rfl Tryz.underlying49 info3 rfl (by decide) (by omega) (d := Kd.int .i64) (p := x) (cs := [.int .i64 x]) (show (Kd.int .i64).K _ x [.int .i64 x] from rfl) HLN.out rfl rfl HO.out HW.out (by have := HN1.out; have := HI2.out; omega) ?_; intro A6 c6 w6 hs5 hb5 hk5; have HC6 := am (hk5 c _ _ (by decide) Bc.out); have HO6 := am hs5; have HW6 := am hb5; clear hs5 hb5 hk5))
    skip
    go_roundg (n0 - (i + 1))
    case measure => exact HM2.out.1
    case rel => exact ⟨i + 1, A6, c6, HM2.out.2.1, HM2.out.2.2, rfl, by first | rfl | rw [b3], ⟨by rw [HT.out]; exact HO6.out⟩, HC6, HW6⟩
   ·
    obtain rfl : i = n0 := by omega
    have t5 : decide (i < i) = false := decide_eq_false (by omega)
    have HALL : xaA (l.reverse.take i = l.reverse) := ⟨List.take_of_length_le (by rw [List.length_reverse, ← HN.out]; exact Nat.le_refl _)⟩
    clear hk2 hlt hi;have cc_ := ce10 Bc
    go_wp2_with ((with_reducible refine xaR (b := .append) (xs := #[.tmp 135, .tmp 138]) rfl ?_); go_loud (refine Sl.app1 rfl (.tmp 135) (.tmp 138) 49 (.int .i64 0) 8 rfl Tryz.underlying49 info3 rfl (by decide) (by omega) (d := Kd.int .i64) (p := b) (cs := [.int .i64 b]) (show (Kd.int .i64).K _ b [.int .i64 b] from rfl) HLN.out rfl rfl HO.out HW.out (by have := HN1.out; omega) ?_; intro A6 c6 w6 hs5 hb5 hk5; have HO6 := am hs5; have HW6 := am hb5; clear hs5 hb5 hk5))
    skip
    rw [Go.Exit.noGoto_ret]
    go_ret2
    have h1 := HO6.out
    rw [HALL.out] at h1
    exact ⟨A6, c6, by rw [HEV.out]; simp only [datF]; rw [show (a :: l.reverse ++ [b]).length = i + 1 + 1 by simp [HN.out]]; first | done | rfl, by rw [HEV.out]; exact h1.low hsz.out, HB.out.trans (HW6.out.mono hsz.out)⟩
theorem Sl.setp {α : Type} {d : Kd α} [Flat d] {e : TypeId} {w : World} {base p : Nat} {A : Option Addr} {c : Nat} {xs : List α} (h : Sl d e w base (fun k => k < p) A c xs) (j : Nat) (v : Value) : Sl d e (w.setCell ⟨p, j, none⟩ v) base (fun k => k < p) A c xs :=
  h.frame (fun k hk _ => Below.heap_setCell _ ⟨p, j, none⟩ v k (Nat.ne_of_lt hk))
theorem clt {w : World} {p : Addr} {v : Value} (h : w.cell? p = some v) : p.block < w.heap.size := by
 rcases Nat.lt_or_ge p.block w.heap.size with h1 | h1
 ·
  exact h1
 ·
  rw [World.cell?] at h
  simp [Array.getElem?_eq_none h1] at h
theorem put5 {w : World} {b : Nat} {t : TypeId} {z0 z1 z2 z3 z4 : Value} (x0 x1 x2 x3 x4 : Value) (h : w.heap[b]? = some (.cells #[z0, z1, z2, z3, z4] t (0, 0))) : (((((w.setCell ⟨b, 0, none⟩ (x0)).setCell ⟨b, 1, none⟩ (x1)).setCell ⟨b, 2, none⟩ (x2)).setCell ⟨b, 3, none⟩ (x3)).setCell ⟨b, 4, none⟩ (x4)).heap[b]? = some (.cells #[x0, x1, x2, x3, x4] t (0, 0)) := by
 have q0 : (w.setCell ⟨b, 0, none⟩ x0).heap[b]? = some (.cells #[x0, z1, z2, z3, z4] t (0, 0)) := xaN h 0 x0 rfl
 have q1 : ((w.setCell ⟨b, 0, none⟩ x0).setCell ⟨b, 1, none⟩ x1).heap[b]? = some (.cells #[x0, x1, z2, z3, z4] t (0, 0)) := xaN q0 1 x1 rfl
 have q2 : (((w.setCell ⟨b, 0, none⟩ x0).setCell ⟨b, 1, none⟩ x1).setCell ⟨b, 2, none⟩ x2).heap[b]? = some (.cells #[x0, x1, x2, z3, z4] t (0, 0)) := xaN q1 2 x2 rfl
 have q3 : ((((w.setCell ⟨b, 0, none⟩ x0).setCell ⟨b, 1, none⟩ x1).setCell ⟨b, 2, none⟩ x2).setCell ⟨b, 3, none⟩ x3).heap[b]? = some (.cells #[x0, x1, x2, x3, z4] t (0, 0)) := xaN q2 3 x3 rfl
 exact xaN q3 4 x4 rfl
theorem Own.addr {α : Type} {d : Kd α} {e : TypeId} {w0 w : World} {A : Option Addr} {c : Nat} {xs : List α} (h : Own d e w0 w A c xs) (hn : 0 < xs.length) : ∃ b off, A = some ⟨b, off, none⟩ := by
 rcases h.row with ⟨h1, h2⟩ | ⟨b, off, cur, inner, h1, _⟩
 ·
  have := h.le; omega
 ·
  exact ⟨b, off, h1⟩
theorem n1s {i n0 : Nat} (h : i < n0) (h2 : n0 ≤ 5000) : IntKind.i64.wrap ((i : Int) + 1) = ((i + 1 : Nat) : Int) := by rw [i64_w]; unfold wrap64; omega
theorem periods_s (a b n : Int) (w : World) (h : SpO a b n) : Calls Tryz.prog 142 #[spV a b n] w fun e w' => ∃ A c, e = .returned (.tuple #[.slice A (perA a b n).1.length c, .int .i64 (perA a b n).2]) ∧ Own k145 145 w w' A c (perA a b n).1 ∧ Below w.heap.size w w' := by
 have HDT := am (fun w => dates_s a b n w h)
 have hlen : (xbR a b n).2 = 0 → 2 ≤ (xbR a b n).1.length ∧ (xbR a b n).1.length ≤ 1202 := fun h => xiD h
 have hpe : perA a b n = if (xbR a b n).2 = 0 then perF (xbR a b n).1 ((xbR a b n).1.length - 1) 0 [] else ([], (xbR a b n).2) := rfl
 have HAJ := am (calAdjust0 none 0)
 have HB : xaA (Below w.heap.size w w) := ⟨Below.refl _ _⟩
 unfold spV at *
 generalize perA a b n = R at *
 obtain ⟨rl, re⟩ := R
 generalize xbR a b n = DT at *
 obtain ⟨L, de⟩ := DT
 simp only at *
 clear h
 go_enter Tryz.func142, Tryz.ntmps142
 go_upto_region 1 with ((with_reducible refine xaJ (N := 1) rfl ?_); refine bxv 1 #[.int .i64 a, .int .i64 b, .int .i64 n, .int .i64 3, .int .i64 1, .int .i64 0, .int .i64 0, .int .i64 0, .int .i64 0, .slice none 0 0] 117 ?_; intro c hg w1 hbox hb; have Bc := am hbox; have HBc := HB; replace HB := am (xaC HB.out hb); have HGc := am hg; have HLc := am (xaM hbox); clear hb hbox hg)
 have cc_ := ce10 Bc
 by_cases hde : de = 0
 ·
  subst hde
  rw [if_pos rfl] at hpe
  have hln := hlen rfl
  obtain ⟨m0, hm0⟩ : ∃ m0, L.length = m0 + 1 := ⟨L.length - 1, by omega⟩
  have hw1 : IntKind.i64.wrap ((L.length : Int) - 1) = (m0 : Int) := by rw [i64_w]; unfold wrap64; omega
  have HPE := am hpe
  have HLN : xaA (L.length = m0 + 1 ∧ 1 ≤ m0 ∧ m0 ≤ 1201) := ⟨by omega⟩
  clear hpe hlen hln hm0
  go_upto_region 2 with (go_at_call 162; go_loud ((with_reducible refine (HDT.out _).mono ?_); rintro y w2 ⟨AL, cL, rfl, hs, hb⟩; have HSL := am hs; clear hs; replace HB := am (xaC HB.out hb); replace Bc := am (xaD Bc.out hb); clear hb))
  clear cc_
  obtain ⟨bL, oL, hAL⟩ := Own.addr HSL.out (by have := HLN.out; omega)
  subst hAL
  go_wp2_with ((with_reducible refine xaJ (N := 20) rfl ?_); refine Kd.xgT k145 (w0 := w2) w2.heap.size 145 rfl (N := 20) rfl 139 _ _ rfl (m0 : Int) rfl rfl Tryz.underlying139 (.agg #[.int .i64 0, .int .i64 0, .int .i64 0, .int .i64 0, .int .i64 0]) 40 xmL rfl (by decide) (by omega) z145 (ok := fun _ => True) (okp := fun _ => True) (k145_mkM _ _ _ z145) (fun _ hk => hk) trivial (by omega) (by have := HLN.out; omega) (by repeat (first | exact Below.refl _ _ | apply xaG | apply xaK)) (by simp) ?_; intro v0 w3 ho hb hg_ hnew_; clear hg_ hnew_; obtain ⟨A5, c5, rfl, hs5⟩ := Sl.of_R ho; have HO := am hs5; have HW := am hb; replace Bc := am (xaD Bc.out hb); clear ho hb hs5)
  skip
  go_loopg [6, 24] m0 (fun kq v6 v24 w' => ∃ (i : Nat) (A2 : Option Addr) (c2 : Nat) (acc : List S145), kq + i = m0 ∧ i ≤ m0 ∧ v6 = .slice A2 i c2 ∧ v24 = .int .i64 (i : Int) ∧ xaA (i = acc.length) ∧ xaA (Own k145 145 w2 w' A2 c2 acc) ∧ xaA (Below w2.heap.size w2 w') ∧ xaA (w'.heap[c]? = some (.cells #[.int .i64 a, .int .i64 b, .int .i64 n, .int .i64 3, .int .i64 1, .int .i64 0, .int .i64 0, .int .i64 0, .int .i64 0, .slice none 0 0] 117 (0, 0))) ∧ xaA ((rl, re) = perF L (L.length - 1 - i) i acc))
  case atStart => exact ⟨0, _, _, [], Nat.add_zero _, Nat.zero_le _, rfl, rfl, ⟨rfl⟩, HO, HW, Bc, HPE⟩
  case round =>
   obtain ⟨i, A2, c2, acc, hk2, hi, rfl, rfl, HA, HO, HW, Bc, HPR⟩ := hrel
   by_cases hlt : i < m0
   ·
    have b3 := n1s (i := i) (n0 := m0) hlt (by have := HLN.out; omega)
    have t5 : decide (i < m0) = true := decide_eq_true hlt
    have hpr := HPR.out
    rw [xlF (by have := HLN.out; omega)] at hpr
    obtain ⟨ad, e, hx⟩ := at_i (Kd.xaQ (Sl.C HSL.out) HW.out) i (by have := HLN.out; omega)
    injection e with e
    subst e
    obtain ⟨ad2, e, hy⟩ := at_i (Kd.xaQ (Sl.C HSL.out) HW.out) (i + 1) (by have := HLN.out; omega)
    injection e with e
    subst e
    rw [Addr.add_lit] at hx hy
    generalize L.getD i 0 = x at *
    generalize L.getD (i + 1) 0 = y at *
    have HA1 := am (HAJ.out x)
    have HA2 := am (HAJ.out y)
    generalize adj0 x = jx at *
    generalize adj0 y = jy at *
    obtain ⟨ax, ex⟩ := jx
    obtain ⟨ay, ey⟩ := jy
    simp only at *
    have HPR2 := am hpr
    have hin1 : i < L.length := by have := HLN.out; omega
    have hin2 : i + 1 < L.length := by have := HLN.out; omega
    have hin3 : (0 : Int) ≤ (i : Int) + 1 := by omega
    have hin4 : (i : Int) + 1 < (L.length : Int) := by omega
    have HM2 : xaA (m0 - (i + 1) < gk ∧ m0 - (i + 1) + (i + 1) = m0 ∧ i + 1 ≤ m0) := ⟨by omega⟩
    clear hpr hk2 hi HPR
    go_wp2_with fail
    skip
    refine xcA ?_
    refine xbL (n := 12) (S := fun w' => w'.cell? ⟨bL, oL + i, none⟩ = some (.int .i64 x) ∧ w'.cell? ⟨bL, oL + (i + 1), none⟩ = some (.int .i64 y)) (ds := [11]) #[false, false, false, false, false, false, false, false, false, false, false, false] (by kernel_rfl) rfl rfl ⟨hx, hy⟩ (fun hHeld => ?_)
    replace Bc := am (xaP Bc.out)
    replace HW := am (xaK HW.out)
    replace HO := am (HO.out.below (xaK (Below.refl _ _)))
    generalize wr.drew = w3 at *
    refine rP 0 ?_
    refine rP 1 ?_
    refine rP 2 ?_
    refine rT 3 ?_
    refine rP 4 ?_
    refine rP 5 ?_
    refine rP 6 ?_
    refine rP 7 ?_
    refine rT 8 ?_
    refine rP 9 ?_
    refine rO 10 (fun K hK => ?_)
    refine xbP (w1 := ?_) (v := ?_) (by rfl) rfl ?_ ?_
    rotate_left 2
    ·
     go_simp
     constructor
     ·
      rfl
     ·
      rfl
    have hh := hHeld
    refine hK.out _ _ ⟨((xaH (Below.refl w3.heap.size w3) _).cell (clt hh.1)).trans hh.1, ((xaH (Below.refl w3.heap.size w3) _).cell (clt hh.2)).trans hh.2⟩ (fun hHeld => ?_)
    clear hK K hHeld hh
    refine rN ?_
    have Bp := am (xbF w3 (.cells #[.int .i64 0, .int .i64 0, .int .i64 0, .int .i64 0, .int .i64 0] 145))
    have hb35 : Below w3.heap.size w3 ((((((w3.alloc (.cells #[.int .i64 0, .int .i64 0, .int .i64 0, .int .i64 0, .int .i64 0] 145)).setCell ⟨w3.heap.size, 0, none⟩ (.int .i64 x)).setCell ⟨w3.heap.size, 1, none⟩ (.int .i64 y)).setCell ⟨w3.heap.size, 2, none⟩ (.int .i64 0)).setCell ⟨w3.heap.size, 3, none⟩ (.int .i64 0)).setCell ⟨w3.heap.size, 4, none⟩ (.int .i64 0)) := xaF (xaF (xaF (xaF (xaF (xaH (Below.refl _ _) _) (Nat.le_refl _)) (Nat.le_refl _)) (Nat.le_refl _)) (Nat.le_refl _)) (Nat.le_refl _)
    have hps : xaA (w2.heap.size ≤ w3.heap.size) := ⟨HW.out.size⟩
    have HCP := am (xaM Bc.out)
    replace HO := am ((HO.out.mono (G := fun k => k < w3.heap.size) (fun k _ h => h)).below hb35)
    replace HW := am (xaC HW.out hb35)
    replace Bc := am (xaD Bc.out hb35)
    have HW35 := am hb35;clear hb35
    generalize w3.alloc (.cells #[.int .i64 0, .int .i64 0, .int .i64 0, .int .i64 0, .int .i64 0] 145) = w4 at *
    have c9_ := cz5 Bp
    refine rL 11 (fun K hK => ?_)
    refine skip_ (w1 := ?_) (by rfl) rfl ?_ ?_
    rotate_left
    ·
     go_simp
     rfl
    refine hK.out _ _ ?_
    clear hK K
    refine rD ?_
    clear c9_
    replace Bp := am (put5 (.int .i64 x) (.int .i64 y) (.int .i64 0) (.int .i64 0) (.int .i64 0) Bp.out)
    generalize (((((w4.setCell ⟨w3.heap.size, 0, none⟩ (.int .i64 x)).setCell ⟨w3.heap.size, 1, none⟩ (.int .i64 y)).setCell ⟨w3.heap.size, 2, none⟩ (.int .i64 0)).setCell ⟨w3.heap.size, 3, none⟩ (.int .i64 0)).setCell ⟨w3.heap.size, 4, none⟩ (.int .i64 0)) = w5 at *
    obtain ⟨p, hp⟩ : ∃ p, p = w3.heap.size := ⟨_, rfl⟩
    rw [← hp] at Bp hps HW35 HO HCP ⊢
    clear hp
    skip
    have HPW : xaA (w2.heap.size ≤ p) := hps
    replace HCP : xaA (c ≠ p) := ⟨Nat.ne_of_lt HCP.out⟩
    clear hps HW35 hx hy;have cc_ := ce10 Bc;have cp_ := cz5 Bp
    go_upto_region 10 with (go_at_call 163; go_loud ((with_reducible refine (HA1.out _).mono ?_); rintro z w6 ⟨rfl, hb⟩; replace HO := am (HO.out.below hb); replace HW := am (xaC HW.out hb); replace Bc := am (xaD Bc.out hb); replace Bp := am (xaD Bp.out hb); clear hb; clear cc_; clear cp_; have cc_ := ce10 Bc; have cp_ := cz5 Bp))
    skip
    have HO9 := am (HO.out.setp 2 (.int .i64 ax))
    have HW9 := am (xaF (g := p) (j := 2) (v := .int .i64 ax) HW.out HPW.out)
    have Bc9 := am ((Below.heap_setCell w6 ⟨p, 2, none⟩ (.int .i64 ax) c HCP.out).trans Bc.out)
    have Bp9 := am (xaN Bp.out 2 (.int .i64 ax) rfl)
    clear cc_ cp_ HO HW Bc Bp
    generalize w6.setCell ⟨p, 2, none⟩ (.int .i64 ax) = w7 at *
    have HO := HO9;have HW := HW9;have Bc := Bc9
    have Bp : xaA (w7.heap[p]? = some (.cells #[.int .i64 x, .int .i64 y, .int .i64 ax, .int .i64 0, .int .i64 0] 145 (0, 0))) := Bp9
    clear HO9 HW9 Bc9 Bp9;have cc_ := ce10 Bc;have cp_ := cz5 Bp
    by_cases hex : ex = 0
    ·
     subst hex
     rw [if_pos rfl] at HPR2
     go_upto_region 13 with (go_at_call 163; go_loud ((with_reducible refine (HA2.out _).mono ?_); rintro z w8 ⟨rfl, hb⟩; replace HO := am (HO.out.below hb); replace HW := am (xaC HW.out hb); replace Bc := am (xaD Bc.out hb); replace Bp := am (xaD Bp.out hb); clear hb; clear cc_; clear cp_; have cc_ := ce10 Bc; have cp_ := cz5 Bp))
     have HO9 := am (HO.out.setp 3 (.int .i64 ay))
     have HW9 := am (xaF (g := p) (j := 3) (v := .int .i64 ay) HW.out HPW.out)
     have Bc9 := am ((Below.heap_setCell w8 ⟨p, 3, none⟩ (.int .i64 ay) c HCP.out).trans Bc.out)
     have Bp9 := am (xaN Bp.out 3 (.int .i64 ay) rfl)
     clear cc_ cp_ HO HW Bc Bp
     generalize w8.setCell ⟨p, 3, none⟩ (.int .i64 ay) = w9 at *
     have HO := HO9;have HW := HW9;have Bc := Bc9
     have Bp : xaA (w9.heap[p]? = some (.cells #[.int .i64 x, .int .i64 y, .int .i64 ax, .int .i64 ay, .int .i64 0] 145 (0, 0))) := Bp9
     clear HO9 HW9 Bc9 Bp9;have cc_ := ce10 Bc;have cp_ := cz5 Bp
     by_cases hey : ey = 0
     ·
      subst hey
      rw [if_pos rfl] at HPR2
      go_upto_region 16 with fail
      have HO9 := am (HO.out.setp 4 (.int .i64 ay))
      have HW9 := am (xaF (g := p) (j := 4) (v := .int .i64 ay) HW.out HPW.out)
      have Bc9 := am ((Below.heap_setCell w9 ⟨p, 4, none⟩ (.int .i64 ay) c HCP.out).trans Bc.out)
      have Bp9 := am (xaN Bp.out 4 (.int .i64 ay) rfl)
      clear cc_ cp_ HO HW Bc Bp
      generalize w9.setCell ⟨p, 4, none⟩ (.int .i64 ay) = w11 at *
      have HO := HO9;have HW := HW9;have Bc := Bc9
      have Bp : xaA (w11.heap[p]? = some (.cells #[.int .i64 x, .int .i64 y, .int .i64 ax, .int .i64 ay, .int .i64 ay] 145 (0, 0))) := Bp9
      clear HO9 HW9 Bc9 Bp9;have cc_ := ce10 Bc;have cp_ := cz5 Bp
      have HO2 : xaA (Own k145 145 w2 w11 A2 c2 acc) := ⟨HO.out.mono (fun _ _ _ => trivial)⟩
      go_wp2_with ((with_reducible refine xaR (b := .append) (xs := #[.tmp 85, .tmp 87]) rfl ?_); go_loud (refine Sl.app1 rfl (.tmp 85) (.tmp 87) 139 (.agg #[.int .i64 0, .int .i64 0, .int .i64 0, .int .i64 0, .int .i64 0]) 40 rfl Tryz.underlying139 xmL rfl (by decide) (by omega) (xmK w11 (⟨x, y, ax, ay, ay⟩ : S145)) HA.out rfl rfl HO2.out HW.out (by have := HLN.out; omega) ?_; intro A6 c6 w12 hs5 hb5 hk5; have HO6 := am hs5; have HW6 := am hb5; have Bc6 := am (hk5 c _ _ (by decide) Bc.out); clear hs5 hb5 hk5))
      skip
      go_roundg (m0 - (i + 1))
      case measure => exact HM2.out.1
      case rel => exact ⟨i + 1, A6, c6, acc ++ [⟨x, y, ax, ay, ay⟩], HM2.out.2.1, HM2.out.2.2, rfl, by first | rfl | rw [b3], ⟨by rw [List.length_append, List.length_singleton, ← HA.out]⟩, HO6, HW6, Bc6, HPR2⟩
     ·
      have t6 : (ey != 0) = true := bne_iff_ne.2 hey
      rw [if_neg hey] at HPR2
      clear hey
      go_wp2_with fail
      go_ret2
      have h1 := HPR2.out
      injection h1 with h1 h2
      exact ⟨none, 0, by rw [h1, h2]; first | done | rfl, by rw [h1]; exact Sl.nil _ _ _ _ _, HB.out.trans (HW.out.mono HB.out.size)⟩
    ·
     have t6 : (ex != 0) = true := bne_iff_ne.2 hex
     rw [if_neg hex] at HPR2
     clear hex
     go_wp2_with fail
     go_ret2
     have h1 := HPR2.out
     injection h1 with h1 h2
     exact ⟨none, 0, by rw [h1, h2]; first | done | rfl, by rw [h1]; exact Sl.nil _ _ _ _ _, HB.out.trans (HW.out.mono HB.out.size)⟩
   ·
    have hin0 : i = m0 := by omega
    have t5 : decide (i < m0) = false := decide_eq_false hlt
    have hpr := HPR.out
    rw [show L.length - 1 - i = 0 by have := HLN.out; omega, perF] at hpr
    have HPR2 := am hpr;clear hpr hk2 hi hlt hin0
    go_wp2_with fail
    go_ret2
    have h1 := HPR2.out
    injection h1 with h1 h2
    exact ⟨A2, c2, by rw [h1, h2, ← HA.out]; first | done | rfl, by rw [h1]; exact HO.out.low HB.out.size, HB.out.trans (HW.out.mono HB.out.size)⟩
 ·
  rw [if_neg hde] at hpe
  injection hpe with h1 h2
  subst h1 h2
  have t6 : (re != 0) = true := bne_iff_ne.2 hde
  clear hde hlen
  go_wp2_with (go_at_call 162; go_loud ((with_reducible refine (HDT.out _).mono ?_); rintro y w2 ⟨AL, cL, rfl, hs, hb⟩; clear hs; replace HB := am (xaC HB.out hb); replace Bc := am (xaD Bc.out hb); clear hb))
  go_ret2
  exact ⟨none, 0, rfl, Sl.nil _ _ _ _ _, HB.out⟩
theorem fcur (c : Int) (w : World) (h : 1 ≤ c ∧ c ≤ 8) : Calls Tryz.prog 141 #[.int .i64 c] w fun e w' => e = .returned (.bool true) ∧ w' = w := by
 have t1 : decide (c ≥ 1) = true := decide_eq_true h.1
 have t2 : decide (c ≤ 8) = true := decide_eq_true h.2
 go_enter Tryz.func141, Tryz.ntmps141
 go_wp2
 go_ret
 exact ⟨rfl, rfl⟩
theorem begin_s (kind cur : Int) (x y : Nat) (a b n : Int) (w : World) (hc : 1 ≤ cur ∧ cur ≤ 8) (hx : numB x = true) (hy : numB y = true) (h : SpO a b n) : Calls Tryz.prog 118 #[(.agg #[.int .i64 1, .int .i64 kind, .int .i64 cur, .float .f64 x, .float .f64 y, .int .i64 a, .int .i64 b, .int .i64 n, .int .i64 3, .int .i64 1, .int .i64 0, .int .i64 0, .int .i64 0, .int .i64 0, .slice none 0 0]), .int .i64 1] w fun e w' => ∃ A c, e = .returned (.tuple #[.slice A (perA a b n).1.length c, .int .i64 (perA a b n).2]) ∧ Sl k145 145 w' w.heap.size (fun _ => True) A c (perA a b n).1 ∧ Below w.heap.size w w' := by
 have HB : xaA (Below w.heap.size w w) := ⟨Below.refl _ _⟩
 have HP := am (fun w => periods_s a b n w h)
 have HC := am (fun w => fcur cur w hc)
 have HX := am (xeL x true hx)
 have HY := am (xeL y true hy)
 generalize perA a b n = R at *
 unfold spV at HP
 clear h hc hx hy
 go_enter Tryz.func118, Tryz.ntmps118
 go_upto_region 1 with ((with_reducible refine xaJ (N := 2) rfl ?_); refine bxv 2 #[.int .i64 1, .int .i64 kind, .int .i64 cur, .float .f64 x, .float .f64 y, .int .i64 a, .int .i64 b, .int .i64 n, .int .i64 3, .int .i64 1, .int .i64 0, .int .i64 0, .int .i64 0, .int .i64 0, .slice none 0 0] 158 ?_; intro l hg w1 hbox hb; have Bl := am hbox; have HBl := HB; replace HB := am (xaC HB.out hb); have HGl := am hg; have HLl := am (xaM hbox); clear hb hbox hg)
 have cl_ := ce15 Bl
 go_wp2_with (first | (go_at_call 141; go_loud ((with_reducible refine (HC.out _).mono ?_); rintro y w2 ⟨rfl, hw_⟩; obtain rfl := hw_.symm)) | (go_at_call 97; go_loud (first | ((with_reducible refine (HX.out _).mono ?_); rintro y w2 ⟨rfl, hw_⟩; obtain rfl := hw_.symm) | ((with_reducible refine (HY.out _).mono ?_); rintro y w2 ⟨rfl, hw_⟩; obtain rfl := hw_.symm))) | (go_at_call 142; go_loud ((with_reducible refine (HP.out _).mono ?_); rintro y w3 ⟨A, c, rfl, hs, hb⟩; have HS := am hs; clear hs; have hz := HB.out.size; replace HB := am (xaC HB.out hb); clear hb)))
 go_ret2
 exact ⟨A, c, rfl, HS.out.low hz, HB.out⟩
noncomputable def legF (kind cur : Int) (x y : Nat) (a b n : Int) : List S48 × Int := if (perA a b n).2 = 0 then xdC kind cur x y (perA a b n).1 [] else ([], (perA a b n).2)
noncomputable def fixF (o : S37) : List S48 × Int := legF o.f6 o.f5 o.f1 o.f2 o.f3 o.f4 o.f7
theorem paid_numb (kind cur : Int) (x y : Nat) (p : S145) (h : (paidF kind cur x y p).2 = 0) : numB (paidF kind cur x y p).1.f1 = true := by
 unfold paidF at h ⊢
 cases hr : floatBits .mul .f64 (mulN x y) (yearF kind p.f2 p.f3) with
 | none => rw [hr] at h; cases h
 | some r =>
  rw [hr] at h
  simp only at h ⊢
  by_cases hn : numB r = true
  ·
   rw [if_pos hn]; exact hn
  ·
   rw [if_neg hn] at h; cases h
theorem pay_num (kind cur : Int) (x y : Nat) : ∀ (l : List S145) (acc : List S48), (∀ f ∈ acc, numB f.f1 = true) → ∀ f ∈ (xdC kind cur x y l acc).1, numB f.f1 = true
 | [], acc, h => h
 | p :: ps, acc, h => by
  rw [xdC]
  by_cases he : (paidF kind cur x y p).2 = 0
  ·
   rw [if_pos he]
   exact pay_num kind cur x y ps _ (fun f hf => (List.mem_append.1 hf).elim (h f) (fun hf => by rw [List.mem_singleton.1 hf]; exact paid_numb kind cur x y p he))
  ·
   rw [if_neg he]; exact fun f hf => (by cases hf)
theorem pay_len (kind cur : Int) (x y : Nat) : ∀ (l : List S145) (acc : List S48), (xdC kind cur x y l acc).1.length ≤ acc.length + l.length
 | [], acc => Nat.le_refl _
 | p :: ps, acc => by
  rw [xdC]
  split
  ·
   have := pay_len kind cur x y ps (acc ++ [(paidF kind cur x y p).1])
   simp only [List.length_append, List.length_cons, List.length_nil] at this ⊢; omega
  ·
   simp
theorem pay_err (kind cur : Int) (x y : Nat) : ∀ (l : List S145) (acc : List S48), (xdC kind cur x y l acc).2 ≠ 0 → (xdC kind cur x y l acc).1 = []
 | [], acc, h => absurd rfl h
 | p :: ps, acc, h => by
  rw [xdC] at h ⊢
  by_cases he : (paidF kind cur x y p).2 = 0
  ·
   rw [if_pos he] at h ⊢; exact pay_err kind cur x y ps _ h
  ·
   rw [if_neg he]
theorem leg_c (kind cur : Int) (x y : Nat) (a b n : Int) (hk : 1 ≤ kind ∧ kind ≤ 5) (hc : 1 ≤ cur ∧ cur ≤ 8) (hx : numB x = true) (hy : numB y = true) (hsp : SpO a b n) (w : World) :
  Calls Tryz.prog 96 #[.agg #[.int .i64 1, .int .i64 kind, .int .i64 cur, .float .f64 x, .float .f64 y, .int .i64 a, .int .i64 b, .int .i64 n, .int .i64 3, .int .i64 1, .int .i64 0, .int .i64 0, .int .i64 0, .int .i64 0, .slice none 0 0]] w fun e w' => ∃ A' c', e = .returned (.tuple #[.slice A' (legF kind cur x y a b n).1.length c', .int .i64 (legF kind cur x y a b n).2]) ∧ Sl k48 48 w' w.heap.size (fun _ => True) A' c' (legF kind cur x y a b n).1 ∧ Below w.heap.size w w' := by
 have hg := fun w => begin_s kind cur x y a b n w hc hx hy hsp
 have hlen := xmE a b n;have hin := per_in a b n
 unfold legF
 generalize perA a b n = pe at *
 obtain ⟨l, ee⟩ := pe
 simp only at hlen hin hg ⊢
 by_cases he : ee = 0
 ·
  subst he
  rw [if_pos rfl]
  exact leg_ok kind cur x y a b n l w hk hx hy (by omega) hin hg _ _ rfl
 ·
  rw [if_neg he]
  refine (leg_err kind cur x y a b n l w ee he hg).mono ?_
  rintro e w' ⟨rfl, hb⟩
  exact ⟨none, 0, rfl, Sl.nil _ _ _ _ _, hb⟩
theorem legF_len (kind cur : Int) (x y : Nat) (a b n : Int) : (legF kind cur x y a b n).1.length ≤ 4096 := by
 unfold legF
 split
 ·
  have h1 := pay_len kind cur x y (perA a b n).1 []
  have h2 := xmE a b n
  simp only [List.length_nil] at h1
  omega
 ·
  exact Nat.zero_le _
theorem legF_err (kind cur : Int) (x y : Nat) (a b n : Int) (h : (legF kind cur x y a b n).2 ≠ 0) : (legF kind cur x y a b n).1 = [] := by
 unfold legF at h ⊢
 by_cases he : (perA a b n).2 = 0
 ·
  rw [if_pos he] at h ⊢; exact pay_err _ _ _ _ _ _ h
 ·
  rw [if_neg he]
theorem fixF_num (o : S37) : ∀ f ∈ (fixF o).1, numB f.f1 = true := by
 unfold fixF legF
 split
 ·
  exact pay_num _ _ _ _ _ _ (fun f hf => (by cases hf))
 ·
  exact fun f hf => (by cases hf)
theorem xiF : ∀ (l : List S103) (i : Nat) (f d : List Int), (ckGo l i f d).1 = none → ∀ x ∈ l, fieldsB x = true
 | [], _, _, _, _ => fun x hx => (by cases hx)
 | x :: r, i, f, d, h => by
  rw [ckGo] at h
  by_cases hc : (fieldsB x && (fitsP x.f0 x.f1 x.f2 i (f.set i (i : Int)) (d.set i 1)).1) = true
  ·
   rw [if_pos hc] at h
   intro z hz
   rcases List.mem_cons.1 hz with rfl | hz
   ·
    rw [Bool.and_eq_true] at hc; exact hc.1
   ·
    exact xiF r _ _ _ h z hz
  ·
   rw [if_neg hc] at h; cases h
theorem xkP {t : List S103} (h : (xbZ t).1 = 0) : ∀ x ∈ t, fieldsB x = true := by
 unfold xbZ at h
 by_cases h1 : 1024 < t.length
 ·
  rw [if_pos h1] at h; cases h
 ·
  rw [if_neg h1] at h
  by_cases h2 : t.length = 0
  ·
   rw [if_pos h2] at h; cases h
  ·
   rw [if_neg h2] at h
   rcases hc : ckGo t 0 (List.replicate t.length 0) (List.replicate t.length 0) with ⟨_ | i, f, d⟩
   ·
    exact xiF t 0 _ _ (by rw [hc])
   ·
    rw [hc] at h; cases h
theorem xmM {n lo hi : Int} : inB n lo hi = true ↔ lo ≤ n ∧ n ≤ hi := by unfold inB; simp
theorem xfE {o : S37} (h : xbE o = true) : (1 ≤ o.f0 ∧ o.f0 ≤ 7) ∧ (o.f0 ≠ 1 → fieldsB (termO o) = true ∧ (xbZ (treeO o)).1 = 0) := by
 unfold xbE at h
 by_cases h1 : o.f0 < 1 ∨ 7 < o.f0
 ·
  rw [if_pos h1] at h; cases h
 ·
  rw [if_neg h1] at h
  refine ⟨by omega, fun h2 => ?_⟩
  rw [if_neg h2] at h
  have hc : (xbZ (treeO o)).1 = 0 := by simpa using h
  refine ⟨xkP hc _ ?_, hc⟩
  unfold treeO
  split <;> simp
theorem xfR {t : S103} (h : fieldsB t = true) : okT t = true ∧ sameT (keptT t) t = true := by
 unfold fieldsB at h
 rw [Bool.and_eq_true, Bool.and_eq_true] at h
 exact h.2
theorem op_ok {o : S37} (h : xbE o = true) : OkO (fixF o) o := by
 obtain ⟨hk, hf⟩ := xfE h
 have hx : (o.f0 = 2 ∨ o.f0 = 5) → numB o.f1 = true := fun h2 => by
  have := (xfR (hf (by omega)).1).1
  unfold okT termO at this
  rcases h2 with h2 | h2
  ·
   rw [h2] at this; simp [xdS, rdI] at this; exact this.1.1
  ·
   rw [h2] at this; simp [xdS, rdI] at this; exact this
 have hr : o.f0 = 7 → 1 ≤ o.f7 ∧ o.f7 ≤ 4096 ∧ 0 ≤ o.f8 ∧ o.f8 ≤ 1200 := fun h2 => by
  have := (xfR (hf (by omega)).1).1
  unfold okT termO at this
  rw [h2] at this; simp [xdS, rdI, xmM] at this; omega
 exact ⟨hk, hx, hr, fixF_num o⟩
theorem fix_c {o : S37} (h : xbE o = true) (h3 : o.f0 = 3) : FixC o (fixF o) ∧ (fixF o).1.length ≤ 100000 := by
 obtain ⟨hk, hf⟩ := xfE h
 obtain ⟨hb, hc⟩ := hf (by omega)
 obtain ⟨h1, h2⟩ := xfR hb
 have hlen : (fixF o).1.length ≤ 4096 := legF_len _ _ _ _ _ _ _
 refine ⟨fun w A hr => ?_, by omega⟩
 have ht : treeO o = [⟨3, 0, 0, o.f1, o.f2, o.f3, o.f4, o.f5, o.f6, o.f7, 0⟩] := by
  unfold sameT keptT sameB termO at h2
  rw [h3] at h2; simp [xdS, rdI] at h2
  unfold treeO addsB termO
  rw [h3]; simp [xdS, rdI]
  exact h2.symm
 unfold okT termO at h1
 rw [h3] at h1
 simp [xdS, rdI, xmM] at h1
 obtain ⟨⟨⟨⟨⟨⟨⟨hx, hy⟩, hc1⟩, ha⟩, hb1⟩, hab⟩, hn⟩, hcur⟩ := h1
 rw [ht] at hc
 have hL := leg_c o.f6 o.f5 o.f1 o.f2 o.f3 o.f4 o.f7 hc1 hcur hx hy ⟨⟨ha.1, hab, hb1.2⟩, hn⟩
 have hF := fun w => fixed1 o.f6 o.f5 o.f1 o.f2 o.f3 o.f4 o.f7 _ _ w hL
 have hM := fun w => meant1 o.f6 o.f5 o.f1 o.f2 o.f3 o.f4 o.f7 _ _ w hlen hF
 exact flows1 o.f6 o.f5 o.f1 o.f2 o.f3 o.f4 o.f7 _ _ w hlen A hr hc (fun he => legF_err _ _ _ _ _ _ _ he) hM
theorem xjC (o : S37) (r : List S37) (j : Nat) : xdB ((o :: r).take (j + 1)) = dOf o + xdB (r.take j) := by
  unfold xdB; rw [List.take_succ_cons, List.map_cons, List.sum_cons]
theorem xkN : ∀ (r : List S37) (i m most a : Int), 0 ≤ m → m ≤ most → m ≤ 63 → (chkGo r i m most).1 = 0 →
  (∀ o ∈ r, xbE o = true) ∧ (∀ j, j ≤ r.length → m + xdB (r.take j) ≤ (chkGo r i m most).2.2 ∧ m + xdB (r.take j) ≤ 63) ∧ (∀ j (hj : j < r.length), 4 ≤ r[j].f0 → 0 < m + xdB (r.take j)) ∧ most ≤ (chkGo r i m most).2.2
 | [], i, m, most, a, h0, h1, h2, h => by
  rw [chkGo] at h ⊢
  by_cases hm : 0 < m
  ·
   rw [if_pos hm] at h; cases h
  ·
   rw [if_neg hm]
   refine ⟨fun o ho => (by cases ho), fun j hj => ?_, fun j hj => absurd hj (Nat.not_lt_zero _), Int.le_refl _⟩
   have : j = 0 := by simpa using hj
   subst this
   simp [xdB]; omega
 | o :: r, i, m, most, a, h0, h1, h2, h => by
  rw [chkGo] at h ⊢
  by_cases hf : xbE o = false
  ·
   rw [if_pos hf] at h; cases h
  ·
   rw [if_neg hf] at h ⊢
   have hft : xbE o = true := by simpa using hf
   obtain ⟨hk, _⟩ := xfE hft
   have key : ∀ (m' most' : Int), m' = m + dOf o → 0 ≤ m' → m' ≤ most' → m' ≤ 63 → most ≤ most' → (4 ≤ o.f0 → 0 < m) → (chkGo r (i + 1) m' most').1 = 0 →
     (∀ x ∈ o :: r, xbE x = true) ∧ (∀ j, j ≤ (o :: r).length → m + xdB ((o :: r).take j) ≤ (chkGo r (i + 1) m' most').2.2 ∧ m + xdB ((o :: r).take j) ≤ 63) ∧ (∀ j (hj : j < (o :: r).length), 4 ≤ (o :: r)[j].f0 → 0 < m + xdB ((o :: r).take j)) ∧ most ≤ (chkGo r (i + 1) m' most').2.2 := by
    intro m' most' e0 e1 e2 e3 e4 e5 e6
    obtain ⟨k1, k2, k3, k4⟩ := xkN r (i + 1) m' most' a e1 e2 e3 e6
    refine ⟨fun x hx => ?_, fun j hj => ?_, fun j hj h4 => ?_, by omega⟩
    ·
     rcases List.mem_cons.1 hx with rfl | hx
     ·
      exact hft
     ·
      exact k1 x hx
    ·
     cases j with
     | zero => simp only [List.take_zero, xdB, List.map_nil, List.sum_nil]; omega
     | succ j =>
      rw [xjC]
      have := k2 j (by simpa using hj)
      omega
    ·
     cases j with
     | zero => simp only [List.take_zero, xdB, List.map_nil, List.sum_nil]; have := e5 h4; omega
     | succ j =>
      rw [xjC]
      have := k3 j (by simpa using hj) h4
      omega
   by_cases ha : addsB o.f0 = true
   ·
    rw [if_pos ha] at h ⊢
    have hk2 : o.f0 = 2 ∨ o.f0 = 3 := by unfold addsB at ha; simpa using ha
    have hd : dOf o = 0 := by unfold dOf; rw [if_neg (by omega), if_neg (by omega)]
    exact key m most (by omega) h0 h1 h2 (Int.le_refl _) (fun h4 => by omega) h
   ·
    rw [if_neg ha] at h ⊢
    have hk2 : ¬ (o.f0 = 2 ∨ o.f0 = 3) := by unfold addsB at ha; simpa using ha
    by_cases h3 : o.f0 = 1
    ·
     rw [if_pos h3] at h ⊢
     have hd : dOf o = 1 := by unfold dOf; rw [if_pos h3]
     by_cases h4 : 63 < m + 1
     ·
      rw [if_pos h4] at h; cases h
     ·
      rw [if_neg h4] at h ⊢
      exact key (m + 1) (max most (m + 1)) (by omega) (by omega) (by omega) (by omega) (by omega) (fun h4 => by omega) h
    ·
     rw [if_neg h3] at h ⊢
     have hd : dOf o = -1 := by unfold dOf; rw [if_neg h3, if_pos (by omega)]
     by_cases h4 : m = 0
     ·
      rw [if_pos h4] at h; cases h
     ·
      rw [if_neg h4] at h ⊢
      exact key (m - 1) most (by omega) (by omega) (by omega) (by omega) (Int.le_refl _) (fun _ => by omega) h
theorem xeZ {l : List S37} (h : (chk l).1 = 0) : Good fixF l ∧ ∀ i, i ≤ l.length → xdB (l.take i) ≤ (chk l).2.2 := by
 unfold chk at h ⊢
 by_cases h1 : 8192 < l.length
 ·
  rw [if_pos h1] at h; cases h
 ·
  rw [if_neg h1] at h ⊢
  obtain ⟨k1, k2, k3, k4⟩ := xkN l 0 0 0 0 (Int.le_refl _) (Int.le_refl _) (by omega) h
  refine ⟨⟨by omega, fun o ho => op_ok (k1 o ho), fun o ho h3 => fix_c (k1 o ho) h3, fun i hi h4 => ?_, fun i hi => ?_⟩, fun i hi => ?_⟩
  ·
   have := k3 i hi h4; omega
  ·
   have := (k2 i hi).2; omega
  ·
   have := (k2 i hi).1; omega
end Go.Proofs.YtkabcgmegljebaaGreatDoor.H
