/- Contracts and facts of functions of the program (calendar, dates and their documents), joined in one text by a program of this session. No condition but what each theorem states. -/
import Derived.Test.YtkabcgmegljebaaGreatDoorUGP
import Derived.Test.YtkabcgmegljebaaGreatDoorUGA
import Derived.Test.YtkabcgmegljebaaGreatDoorUGD
set_option linter.unusedVariables false
set_option linter.unusedSimpArgs false
namespace Go.Proofs.YtkabcgmegljebaaGreatDoor.H
open Go.RowKit Go.Proofs.YtkabcgmegljebaaGreatDoorW.PrintWords Go.Proofs.YtkabcgmegljebaaGreatDoorW.PrintLast Go.Proofs.YtkabcgmegljebaaGreatDoorW.PrintMore
open Go.Proofs.YtkabcgmegljebaaGreatDoor.Q
def ofF (f : S48) : S79 := ⟨f.f0, (f.f1 : Int), f.f2⟩
theorem bits_f (x : Nat) : api_Bits.f x = some (x : Int) := by unfold api_Bits.f; rfl
theorem of_l0 (l : List S48) (hl : l.length ≤ 4096) : ∀ (f i : Nat), i + f = l.length → Ev (fun k => tenorref14_Of.l0 k l ((l.take i).map ofF) (i : Int)) (l.map ofF)
 | 0, i, h => by
  refine Ev.step (f := fun _ => some (l.map ofF)) (fun k => ?_) (Ev.now _)
  rw [tenorref14_Of.l0, if_neg (by omega), List.take_of_length_le (by omega)]
 | f + 1, i, h => by
  have hlt : i < l.length := by omega
  have hrec := of_l0 l hl f (i + 1) (by omega)
  have hw : wrap64 ((i : Int) + 1) = ((i + 1 : Nat) : Int) := by rw [L.w64 (by omega) (by omega)]; push_cast; rfl
  refine Ev.step (fun k => ?_) hrec
  rw [tenorref14_Of.l0, if_pos (by omega), if_pos (by omega), rd48 hlt, bits_f, Option.bind_some, if_pos (by rw [List.length_map, List.length_take]; omega), hw, map_take_succ ofF l i hlt]
  rfl
theorem of_c (l : List S48) (A : Option Addr) (c : Nat) (w : World) (hr : Kd.C k48 w A l.length l) (hl : l.length ≤ 4096) (hc : l.length ≤ c) :
  Calls Tryz.prog 25 #[.slice A l.length c] w fun e w' => ∃ v, e = .returned v ∧ Kd.R k79 79 w' w.heap.size (fun _ => True) v (l.map ofF) ∧ Below w.heap.size w w' := by
 obtain ⟨k, hk⟩ := of_l0 l hl l.length 0 (by omega)
 have h := hk k (Nat.le_refl _)
 exact tenorref14_Of.calls k A c l (l.map ofF) w hr hc h
theorem rd79 {l : List S48} {i : Nat} (h : i < l.length) : rd_T79 (l.map ofF) (i : Int) = ofF l[i] := by
  unfold rd_T79; simp [h]
theorem sameN_c (x : Int) (w : World) : Calls Tryz.prog 30 #[.int .u64 x, .int .u64 x] w fun e w' => e = .returned (.bool true) ∧ w' = w := by
 have h : (x == x) = true := beq_self_eq_true x
 go_enter Tryz.func30, Tryz.ntmps30
 go_wp2
 go_ret
 exact ⟨rfl, rfl⟩
set_option maxHeartbeats 1000000 in
set_option maxRecDepth 100000 in
theorem same_c (l : List S48) (A A2 : Option Addr) (c c2 : Nat) (w : World) (hr : Kd.C k48 w A l.length l) (hr2 : Kd.C k79 w A2 l.length (l.map ofF)) (hl : l.length ≤ 4096) :
  Calls Tryz.prog 13 #[.slice A l.length c, .slice A2 l.length c2] w fun e w' => e = .returned (.bool true) ∧ Below w.heap.size w w' := by
 have HR := Aside0.mk hr;have HR2 := Aside0.mk hr2;have HL := Aside0.mk hl
 have t0 : ((l.length : Int) != (l.length : Int)) = false := bne_self_eq_false _
 clear hr hr2 hl
 go_enter Tryz.func13, Tryz.ntmps13
 go_wp2_with fail
 go_loopg [5] (l.length) (fun kq v5 w' => ∃ i : Nat, i ≤ l.length ∧ kq + i = l.length ∧ v5 = .int .i64 i ∧ Aside0 (Below w.heap.size w w'))
 case atStart => exact ⟨0, by omega, by omega, rfl, ⟨by repeat (first | exact Below.refl _ _ | apply pw_below_drewN | apply below_drew1)⟩⟩
 case round =>
  obtain ⟨i, hi, hk, rfl, HBW⟩ := hrel
  by_cases hlt : i < l.length
  ·
   obtain ⟨ad, e, h0, h1, h2⟩ := at_T48 (Kd.C_below HR.out HBW.out) (i : Int) (by omega) (by omega)
   subst e
   obtain ⟨ad2, e, g0, g1, g2⟩ := at_T79 (Kd.C_below HR2.out HBW.out) (i : Int) (by omega) (by omega)
   subst e
   rw [rd48 hlt] at h0 h1 h2
   rw [rd79 hlt] at g0 g1 g2
   rw [Int.toNat_natCast] at h0 h1 h2 g0 g1 g2
   generalize l[i] = x at h0 h1 h2 g0 g1 g2
   obtain ⟨x0, x1, x2⟩ := x
   simp only [ofF] at h0 h1 h2 g0 g1 g2
   have hmx : (i : Int) + 1 ≤ 9223372036854775807 := by have := HL.out; omega
   have u0 : (x0 != x0) = false := bne_self_eq_false _
   have u2 : (x2 != x2) = false := bne_self_eq_false _
   go_wp2_with fail
   go_quiet (first | (go_at_call 29; exact Calls.quiet_of_same (bits_same _ _)) | (go_at_call 30; exact Calls.quiet_of_same (sameN_c _ _)))
   go_wp2
   go_roundg (gk - 1)
   case measure => omega
   case rel => exact ⟨i + 1, by omega, by omega, by go_num, ⟨pw_below_drewN HBW.out _⟩⟩
  ·
   go_wp2_with fail
   go_ret
   exact ⟨rfl, HBW.out⟩
end Go.Proofs.YtkabcgmegljebaaGreatDoor.H
namespace Go.Proofs.YtkabcgmegljebaaGreatDoor.H
open Go.RowKit Go.Proofs.YtkabcgmegljebaaGreatDoorW.PrintWords Go.Proofs.YtkabcgmegljebaaGreatDoorW.PrintLast Go.Proofs.YtkabcgmegljebaaGreatDoorW.PrintMore
open Go.Proofs.YtkabcgmegljebaaGreatDoor.Q
instance flat79 : Flat k79 := ⟨fun {w w' x cs} h => by rw [k79_open h]; exact k79_mk w' x⟩
theorem laid_c (ps : List PT) (w : World) (base : Nat) (F : Nat → Prop) (A : Option Addr) (c : Nat) (hs : List Nat) (hS : Sl kp 124 w base F A c hs) (hP : PRL w base F ps hs) (hl : (codeL ps).length ≤ 8192) :
  Calls Tryz.prog 42 #[.slice none 0 0, .slice A ps.length c] w fun e w' => ∃ A' c', e = .returned (.slice A' (codeL ps).length c') ∧ Sl k37 37 w' w.heap.size (fun _ => True) A' c' (codeL ps) ∧ Below w.heap.size w w' := by
 have h := laC _ ps (Nat.lt_succ_self _) w base F A c hs hS hP w none 0 [] (Below.refl _ _) (Sl.nil _ _ _ _ _) (by rw [List.length_nil]; omega)
 simp only [List.nil_append] at h
 exact h
section
variable (l : List S37) (A : Option Addr) (c : Nat) (w : World)
set_option maxHeartbeats 1000000 in
set_option maxRecDepth 100000 in
theorem trim_bad (hk : KT w) (hr : Kd.C k37 w A l.length l) (he : (chk l).1 ≠ 0) : Calls Tryz.prog 26 #[.slice A l.length c] w fun e w' => e = .returned (.tuple #[.slice none 0 0, .int .i64 (chk l).1]) ∧ Below w.heap.size w w' := by
 have hck := check31 l A c w hk hr
 generalize (chk l).1 = e1 at he hck
 generalize (chk l).2.1 = a1 at hck
 have HC := Aside0.mk hck
 have t0 : (e1 != 0) = true := bne_iff_ne.2 he
 clear hk hr he hck
 go_enter Tryz.func26, Tryz.ntmps26
 go_wp2_with (go_at_call 31; (with_reducible refine (HC.out).mono ?_); rintro e w1 ⟨rfl, hb⟩; have HB := Aside0.mk hb; clear hb)
 go_ret2
 exact ⟨rfl, HB.out⟩
set_option maxHeartbeats 1000000 in
set_option maxRecDepth 100000 in
theorem trim_ok (b : List PT) (hb : piecesS l = [b]) (hbl : (codeL b).length ≤ 8192) (hk : KT w) (hr : Kd.C k37 w A l.length l) (he : (chk l).1 = 0) (hw : ∀ o ∈ l, o.f1 < 18446744073709551616) : Calls Tryz.prog 26 #[.slice A l.length c] w fun e w' => ∃ A', e = .returned (.tuple #[.slice A' (codeL (trL b)).length (codeL (trL b)).length, .int .i64 0]) ∧ Sl k37 37 w' w.heap.size (fun _ => True) A' (codeL (trL b)).length (codeL (trL b)) ∧ Below w.heap.size w w' := by
 have hck := check31 l A c w hk hr
 rw [he] at hck
 generalize (chk l).2.1 = a1 at hck
 have hpc : ∀ w1, Kd.C k37 w1 A l.length l → Calls Tryz.prog 44 #[.slice A l.length c] w1 fun e w' => ∃ A' c' hs, e = .returned (.slice A' b.length c') ∧ hs.length = b.length ∧ Sl kp 124 w' w1.heap.size (fun _ => True) A' c' hs ∧ PRL w' w1.heap.size (fun _ => True) b hs ∧ Below w1.heap.size w1 w' := fun w1 hr1 => by
  refine (pieces_c l he hw w1 A c hr1).mono ?_
  rintro e w' ⟨b', A', c', hs, e1, h1, h2, h3, h4, h5⟩
  rw [hb] at e1
  injection e1 with e1
  subst e1
  exact ⟨A', c', hs, h1, h2, h3, h4, h5⟩
 have htl : (codeL (trL b)).length ≤ 8192 := Nat.le_trans (trL_dep b).2 hbl
 have HC := Aside0.mk hck;have HPC := Aside0.mk hpc;have HBL := Aside0.mk hbl;have HTL := Aside0.mk htl;have HR := Aside0.mk hr;clear hk hr he hck hpc hw hb hbl htl
 go_enter Tryz.func26, Tryz.ntmps26
 go_upto_region 4 with (go_at_call 31; (with_reducible refine (HC.out).mono ?_); rintro e w1 ⟨rfl, hb⟩; have HB := Aside0.mk hb; clear hb)
 clear HC
 go_wp2_with (first | (go_at_call 44; (with_reducible refine (HPC.out _ (Kd.C_below HR.out HB.out)).mono ?_); rintro e w2 ⟨A2, c2, hs2, rfl, hl2, hS2, hP2, hb⟩; have HS2 := Aside0.mk hS2; have HP2 := Aside0.mk hP2; have HB2 := Aside0.mk hb; clear hl2 hS2 hP2 hb) | (go_at_call 43; (with_reducible refine (trimmed_c _ HBL.out _ _ _ _ _ _ HB2.out.size HS2.out HP2.out).mono ?_); rintro e w3 ⟨A3, c3, hs3, rfl, hl3, hS3, hP3, hb⟩; have HS3 := Aside0.mk (hS3.low HB2.out.size); have HP3 := Aside0.mk (PRL.mono (G := fun _ => True) (fun _ _ _ => trivial) _ _ hP3); have HB3 := Aside0.mk (HB2.out.trans (hb.mono HB2.out.size)); clear hl3 hS3 hP3 hb) | (go_at_call 42; (with_reducible refine (laid_c _ _ _ _ _ _ _ HS3.out HP3.out HTL.out).mono ?_); rintro e w4 ⟨A4, c4, rfl, hs4, hb⟩; have HS4 := Aside0.mk hs4; have HB4 := Aside0.mk (HB3.out.trans (hb.mono HB3.out.size)); clear hs4 hb) | (go_at_call 41; (with_reducible refine (clip_op _ _ _ _ HS4.out.le HS4.out.lim).mono ?_); rintro e w' ⟨rfl, hw_⟩; obtain rfl := hw_.symm))
 go_ret2
 have hz : w.heap.size ≤ w3.heap.size := Nat.le_trans HB.out.size HB3.out.size
 have hh := HS4.out.head (codeL (trL b)).length (codeL (trL b)).length (Nat.le_refl _) (Nat.le_refl _) HS4.out.le
 rw [List.take_length] at hh
 exact ⟨A4, rfl, hh.low hz, HB.out.trans (HB4.out.mono HB.out.size)⟩
set_option maxHeartbeats 1000000 in
set_option maxRecDepth 100000 in
theorem trims_long (hk : KT w) (hl : 100 < l.length) : Calls Tryz.prog 7 #[.slice A l.length c] w fun e w' => e = .returned (.bool true) ∧ Below w.heap.size w w' := by
 have HK := Aside0.mk hk
 have t1 : decide ((l.length : Int) > 100) = true := decide_eq_true (by omega)
 clear hk hl
 go_enter Tryz.func7, Tryz.ntmps7
 go_wp2_with (go_at_call 9; (with_reducible refine (awake_c _ HK.out).mono ?_); rintro e w2 ⟨rfl, hb⟩; have HB2 := Aside0.mk hb; clear hb)
 go_ret
 exact ⟨rfl, HB2.out⟩
set_option maxHeartbeats 1000000 in
set_option maxRecDepth 100000 in
theorem trims_bad (hk : KT w) (hr : Kd.C k37 w A l.length l) (he : (chk l).1 ≠ 0) (hl : l.length ≤ 100) : Calls Tryz.prog 7 #[.slice A l.length c] w fun e w' => e = .returned (.bool true) ∧ Below w.heap.size w w' := by
 have ht := trim_bad l A c w hk hr he
 have hrun := fun w hk hr => run_ok (c := c) (w := w) (A := A) hk fixF hr (ck_chk l) (fun h => absurd h he)
 have e1 : runT fixF ((chk l).1, (chk l).2.1) l = ([], (chk l).1) := by unfold runT; rw [if_neg he]
 rw [e1] at hrun
 generalize (chk l).1 = e1 at he ht hrun
 generalize (chk l).2.1 = a1 at hrun
 have HT := Aside0.mk ht;have HRUN := Aside0.mk hrun;have HK := Aside0.mk hk;have HR := Aside0.mk hr
 have t0 : (e1 != 0) = true := bne_iff_ne.2 he
 have t1 : decide ((l.length : Int) > 100) = false := decide_eq_false (by omega)
 have t2 : (e1 == e1) = true := beq_self_eq_true _
 clear ht hrun hk hr he hl
 go_enter Tryz.func7, Tryz.ntmps7
 go_wp2_with (first | (go_at_call 26; (with_reducible refine (HT.out).mono ?_); rintro e w1 ⟨rfl, hb⟩; have HB := Aside0.mk hb; clear hb) | (go_at_call 10; (with_reducible refine (HRUN.out _ (HK.out.below HB.out) (Kd.C_below HR.out HB.out)).mono ?_); rintro e w2 ⟨Aw, cw, rfl, hs, hb⟩; replace HB := Aside0.mk (HB.out.trans (hb.mono HB.out.size)); clear hs hb) | (go_at_call 9; (with_reducible refine (awake_c _ (HK.out.below HB.out)).mono ?_); rintro e w3 ⟨rfl, hb⟩; replace HB := Aside0.mk (HB.out.trans (hb.mono HB.out.size)); clear hb))
 go_ret
 exact ⟨rfl, HB.out⟩
set_option maxHeartbeats 1000000 in
set_option maxRecDepth 100000 in
theorem trims_ok (hk : KT w) (hr : Kd.C k37 w A l.length l) (he : (chk l).1 = 0) (hw : ∀ o ∈ l, o.f1 < 18446744073709551616) (hl : l.length ≤ 100) : Calls Tryz.prog 7 #[.slice A l.length c] w fun e w' => e = .returned (.bool true) ∧ Below w.heap.size w w' := by
 obtain ⟨b, hb, hcb, hwb, _⟩ := forest he hw
 obtain ⟨hg, _⟩ := chk_good he
 have hlen := hg.len
 have hll : (runT fixF (0, (chk l).2.1) l).1.length ≤ 4096 := by
  have h := (run_inv (fxs := fixF) 8193 (st0 l) hg (inv0 l)).1.ok.len
  unfold runT
  rw [if_pos rfl]
  unfold stepM
  rw [show (st0 l).ended = false from rfl, if_neg (by decide), if_neg (by omega)]
  unfold flowsT
  split
  ·
   split
   ·
    exact h
   ·
    exact Nat.zero_le _
  ·
   exact Nat.zero_le _
 have ht := trim_ok l A c w b hb (by rw [hcb]; exact hlen) hk hr he hw
 obtain ⟨tl1, tl2, tl3⟩ := trim_law he hcb hwb (chk (codeL (trL b))).2.1 (chk l).2.1
 have hrun := fun w hk hr => run_ok (c := c) (w := w) (A := A) hk fixF hr (ck_chk l) (fun _ => hg)
 have hg2 := (chk_good tl1).1
 generalize hcs : codeL (trL b) = s at ht tl1 tl2 tl3 hg2
 have hrun2 := fun A2 w hk hr => run_ok (c := s.length) (w := w) (A := A2) hk fixF hr (ck_chk s) (fun _ => hg2)
 rw [he] at hrun
 rw [tl1] at hrun2
 rw [tl3] at hrun2
 generalize runT fixF (0, (chk l).2.1) l = res at hrun hrun2 hll
 obtain ⟨lw, fw⟩ := res
 simp only at hrun hrun2 hll
 have HT := Aside0.mk ht;have HRUN := Aside0.mk hrun;have HRUN2 := Aside0.mk hrun2;have HK := Aside0.mk hk;have HR := Aside0.mk hr;have HLL := Aside0.mk hll
 have t1 : decide ((l.length : Int) > 100) = false := decide_eq_false (by omega)
 have t2 : (fw == fw) = true := beq_self_eq_true _
 clear ht hrun hrun2 hk hr he hl hb hcb hwb hg hlen tl1 tl2 tl3 hg2 hcs hw hll
 go_enter Tryz.func7, Tryz.ntmps7
 go_upto_region 4 with (go_at_call 26; (with_reducible refine (HT.out).mono ?_); rintro e w1 ⟨A1, rfl, hs, hb⟩; have HS := Aside0.mk hs; have HB := Aside0.mk hb; clear hs hb)
 clear HT
 go_upto_region 5 with (go_at_call 10; (with_reducible refine (HRUN.out _ (HK.out.below HB.out) (Kd.C_below HR.out HB.out)).mono ?_); rintro e w2 ⟨Aw, cw, rfl, hs, hb⟩; have HW := Aside0.mk hs; replace HS := Aside0.mk (HS.out.below hb); replace HB := Aside0.mk (HB.out.trans (hb.mono HB.out.size)); clear hs hb)
 clear HRUN
 go_upto_region 8 with (go_at_call 10; (with_reducible refine (HRUN2.out _ _ (HK.out.below HB.out) HS.out.C).mono ?_); rintro e w3 ⟨Av, cv, rfl, hs, hb⟩; have HV := Aside0.mk hs; replace HW := Aside0.mk (HW.out.below hb); replace HB := Aside0.mk (HB.out.trans (hb.mono HB.out.size)); clear hs hb)
 clear HRUN2
 go_wp2_with (first | (go_at_call 25; (with_reducible refine (of_c _ _ _ _ HV.out.C HLL.out HV.out.le).mono ?_); rintro e w4 ⟨v, rfl, hr, hb⟩; obtain ⟨A4, c4, rfl, hs4⟩ := Sl.of_R hr; rw [List.length_map]; have HO := Aside0.mk hs4; replace HW := Aside0.mk (HW.out.below hb); replace HB := Aside0.mk (HB.out.trans (hb.mono HB.out.size)); clear hr hs4 hb) | (go_at_call 13; (with_reducible refine (same_c _ _ _ _ _ _ HW.out.C (by have h := HO.out.C; rwa [List.length_map] at h) HLL.out).mono ?_); rintro e w5 ⟨rfl, hb⟩; replace HB := Aside0.mk (HB.out.trans (hb.mono HB.out.size)); clear hb) | (go_at_call 9; (with_reducible refine (awake_c _ (HK.out.below HB.out)).mono ?_); rintro e w6 ⟨rfl, hb⟩; replace HB := Aside0.mk (HB.out.trans (hb.mono HB.out.size)); clear hb))
 go_ret
 exact ⟨rfl, HB.out⟩
theorem trims_all (hk : KT w) (hr : Kd.C k37 w A l.length l) (hw : ∀ o ∈ l, o.f1 < 18446744073709551616) : Calls Tryz.prog 7 #[.slice A l.length c] w fun e w' => e = .returned (.bool true) ∧ Below w.heap.size w w' := by
 by_cases hl : 100 < l.length
 ·
  exact trims_long l A c w hk hl
 ·
  by_cases he : (chk l).1 = 0
  ·
   exact trims_ok l A c w hk hr he hw (by omega)
  ·
   exact trims_bad l A c w hk hr he (by omega)
end
end Go.Proofs.YtkabcgmegljebaaGreatDoor.H
