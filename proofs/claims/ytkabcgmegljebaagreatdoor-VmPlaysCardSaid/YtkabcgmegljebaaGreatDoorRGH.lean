/- Contracts and facts of functions of the program, joined in one text. -/
import Derived.Test.YtkabcgmegljebaaGreatDoorRGA
import Derived.Test.YtkabcgmegljebaaGreatDoorRGE
import Derived.Test.YtkabcgmegljebaaGreatDoorRGG
import Derived.BigRegion
import Derived.Carry
import Derived.Test.YtkabcgmegljebaaGreatDoorRGD
set_option maxHeartbeats 8000000
set_option maxRecDepth 100000
set_option linter.unusedVariables false
set_option linter.unusedSimpArgs false
namespace Go.Proofs.YtkabcgmegljebaaGreatDoor.D
open Go.RowKit Go.Proofs.YtkabcgmegljebaaGreatDoorW.PrintWords Go.Proofs.YtkabcgmegljebaaGreatDoorW.PrintLast Go.Proofs.YtkabcgmegljebaaGreatDoorW.PrintMore
open Go.Proofs.YtkabcgmegljebaaGreatDoor.Q Go.Proofs.YtkabcgmegljebaaGreatDoor.H
theorem months_is (n k : Int) : M.xdX n k false = if 0 ≤ n ∧ n ≤ 109572 then (if M.xcB n k then (M.dayOf (M.mAt n k / 12) (M.mAt n k % 12 + 1) (M.xcC n k false), 0) else (0, 51)) else (0, 51) := rfl
theorem xlH (n k : Int) : M.xcC n k false = if M.mlen (M.mAt n k / 12) (M.mAt n k % 12 + 1) < M.civD n then M.mlen (M.mAt n k / 12) (M.mAt n k % 12 + 1) else M.civD n := by
 unfold M.xcC
 by_cases h : M.mlen (M.mAt n k / 12) (M.mAt n k % 12 + 1) < M.civD n
 ·
  rw [if_pos h, if_pos h]
 ·
  rw [if_neg h, if_neg h]; simp
theorem months_c (n k : Int) (w : World) : Calls Tryz.prog 116 #[.int .i64 n, .int .i64 k, .bool false] w fun e w' => e = .returned (.tuple #[.int .i64 (M.xdX n k false).1, .int .i64 (M.xdX n k false).2]) ∧ Below w.heap.size w w' := by
 have HB : xaA (Below w.heap.size w w) := ⟨Below.refl _ _⟩
 rw [months_is]
 by_cases hn : 0 ≤ n ∧ n ≤ 109572
 ·
  rw [if_pos hn]
  have hci : M.xdQ (M.civY n) (M.civM n) (M.civD n) := (M.xfS n hn.1 hn.2).1
  unfold M.xdQ at hci
  have HC : xaA (∀ w, Calls Tryz.prog 136 #[.int .i64 n] w fun e w' => e = .returned (.tuple #[.agg #[.int .i64 (M.civY n), .int .i64 (M.civM n), .int .i64 (M.civD n)], .int .i64 0]) ∧ Below w.heap.size w w') := ⟨fun w => xiG n w hn⟩
  have HMO : xaA (∀ w, Calls Tryz.prog 137 #[.agg #[.int .i64 (M.civY n), .int .i64 (M.civM n), .int .i64 (M.civD n)], .int .i64 k] w fun e w' => e = .returned (xiZ (M.civY n) (M.civM n) k) ∧ Below w.heap.size w w') := ⟨fun w => month_c _ _ _ k w ⟨hci.1, hci.2.1⟩ ⟨hci.2.2.1, hci.2.2.2.1⟩⟩
  have hmv : xiZ (M.civY n) (M.civM n) k = if M.xcB n k then .tuple #[.int .i64 (M.mAt n k / 12), .int .i64 (M.mAt n k % 12 + 1), .bool true] else .tuple #[.int .i64 0, .int .i64 0, .bool false] := rfl
  rw [hmv] at HMO
  by_cases hk : M.xcB n k
  ·
   rw [if_pos hk] at HMO ⊢
   obtain ⟨r1, r2, r3, r4⟩ := M.xmH hk
   have hid := M.monthsDate false hn hk;have hdd := xlH n k
   have HL : xaA (∀ w, Calls Tryz.prog 138 #[.int .i64 (M.mAt n k / 12), .int .i64 (M.mAt n k % 12 + 1)] w fun e w' => e = .returned (.int .i64 (M.mlen (M.mAt n k / 12) (M.mAt n k % 12 + 1))) ∧ w' = w) := ⟨fun w => xhF _ _ w (by omega)⟩
   have HO : xaA (∀ w, Calls Tryz.prog 139 #[.int .i64 (M.mAt n k / 12), .int .i64 (M.mAt n k % 12 + 1), .int .i64 (M.xcC n k false)] w fun e w' => e = .returned (.tuple #[.int .i64 (M.dayOf (M.mAt n k / 12) (M.mAt n k % 12 + 1) (M.xcC n k false)), .int .i64 0]) ∧ w' = w) := ⟨fun w => ofOk_c _ _ _ w hid⟩
   clear hid r1 r2 r3 r4 hmv hk hci hn
   generalize M.dayOf (M.mAt n k / 12) (M.mAt n k % 12 + 1) (M.xcC n k false) = rr at *
   generalize M.mlen (M.mAt n k / 12) (M.mAt n k % 12 + 1) = ml at *
   generalize M.mAt n k / 12 = y2 at *
   generalize M.mAt n k % 12 + 1 = m2 at *
   generalize M.xcC n k false = dd at *
   generalize M.civY n = Y at *
   generalize M.civM n = M0 at *
   generalize M.civD n = D0 at *
   have HDD := am hdd;clear hdd
   go_enter Tryz.func116, Tryz.ntmps116
   go_upto_if 20 with (first | (go_at_call 136; go_loud ((with_reducible refine (HC.out _).mono ?_); rintro x w2 ⟨rfl, hb⟩; replace HB := am (xaC HB.out hb); clear hb)) | ((with_reducible refine xaJ (N := 8) rfl ?_); refine bxv 8 #[.int .i64 0, .int .i64 0, .int .i64 0] 198 ?_; intro g hg w3 hbox hb; have Bg := am hbox; have HBg := HB; replace HB := am (xaC HB.out hb); have HGg := am hg; have HLg := am (xaM hbox); clear hb hbox hg; have hgb : xaA (w.heap.size ≤ g) := ⟨by have h1 := HGg.out; have h2 := HBg.out.size; omega⟩; have cg_ := cz3 Bg))
   clear cg_
   have B3 := am (put3 (.int .i64 Y) (.int .i64 M0) (.int .i64 D0) Bg.out)
   have HB3 : xaA (Below w.heap.size w (((w3.setCell ⟨g, 0, none⟩ (.int .i64 Y)).setCell ⟨g, 1, none⟩ (.int .i64 M0)).setCell ⟨g, 2, none⟩ (.int .i64 D0))) := ⟨xaF (xaF (xaF HB.out hgb.out) hgb.out) hgb.out⟩
   clear Bg HB
   generalize (((w3.setCell ⟨g, 0, none⟩ (.int .i64 Y)).setCell ⟨g, 1, none⟩ (.int .i64 M0)).setCell ⟨g, 2, none⟩ (.int .i64 D0)) = w4 at *
   have Bg := B3;have HB := HB3;clear B3 HB3;have cg_ := ce3 Bg
   skip
   go_upto_if 30 with (go_at_call 137; go_loud ((with_reducible refine (HMO.out _).mono ?_); rintro x w5 ⟨rfl, hb⟩; replace HB := am (xaC HB.out hb); replace Bg := am (xaD Bg.out hb); clear hb))
   clear cg_;have cg_ := ce3 Bg
   go_wp2_with fail
   skip
   have hmn : (if ml < D0 then ml else D0) = dd := HDD.out.symm
   by_cases hlt : ml < D0
   all_goals
    first | rw [if_pos hlt] at hmn | rw [if_neg hlt] at hmn
    subst hmn
    go_quiet ((go_at_call 138; with_reducible exact Calls.quiet_of_same (HL.out _)))
    skip
    clear cg_
    replace HB := am (xaG HB.out nq)
    generalize w5.drewN nq = w6 at *
    go_wp2_with fail
    go_quiet (fail)
    skip
    go_wp2_with (go_at_call 139; go_loud ((with_reducible refine (HO.out _).mono ?_); rintro x w7 ⟨rfl, hw_⟩; obtain rfl := hw_.symm))
    go_ret2
    exact ⟨rfl, by repeat (first | exact HB.out | apply xaG | apply xaK)⟩
  ·
   rw [if_neg hk] at HMO ⊢
   clear hci hn hmv hk
   generalize M.civY n = Y at *
   generalize M.civM n = M0 at *
   generalize M.civD n = D0 at *
   go_enter Tryz.func116, Tryz.ntmps116
   go_upto_if 20 with (first | (go_at_call 136; go_loud ((with_reducible refine (HC.out _).mono ?_); rintro x w2 ⟨rfl, hb⟩; replace HB := am (xaC HB.out hb); clear hb)) | ((with_reducible refine xaJ (N := 8) rfl ?_); refine bxv 8 #[.int .i64 0, .int .i64 0, .int .i64 0] 198 ?_; intro g hg w3 hbox hb; have Bg := am hbox; have HBg := HB; replace HB := am (xaC HB.out hb); have HGg := am hg; have HLg := am (xaM hbox); clear hb hbox hg; have hgb : xaA (w.heap.size ≤ g) := ⟨by have h1 := HGg.out; have h2 := HBg.out.size; omega⟩; have cg_ := cz3 Bg))
   clear cg_
   have B3 := am (put3 (.int .i64 Y) (.int .i64 M0) (.int .i64 D0) Bg.out)
   have HB3 : xaA (Below w.heap.size w (((w3.setCell ⟨g, 0, none⟩ (.int .i64 Y)).setCell ⟨g, 1, none⟩ (.int .i64 M0)).setCell ⟨g, 2, none⟩ (.int .i64 D0))) := ⟨xaF (xaF (xaF HB.out hgb.out) hgb.out) hgb.out⟩
   clear Bg HB
   generalize (((w3.setCell ⟨g, 0, none⟩ (.int .i64 Y)).setCell ⟨g, 1, none⟩ (.int .i64 M0)).setCell ⟨g, 2, none⟩ (.int .i64 D0)) = w4 at *
   have Bg := B3;have HB := HB3;clear B3 HB3;have cg_ := ce3 Bg
   go_wp2_with (go_at_call 137; go_loud ((with_reducible refine (HMO.out _).mono ?_); rintro x w5 ⟨rfl, hb⟩; replace HB := am (xaC HB.out hb); replace Bg := am (xaD Bg.out hb); clear hb))
   go_ret2
   exact ⟨rfl, HB.out⟩
 ·
  rw [if_neg hn]
  have HC : xaA (∀ w, Calls Tryz.prog 136 #[.int .i64 n] w fun e w' => e = .returned (.tuple #[.agg #[.int .i64 0, .int .i64 0, .int .i64 0], .int .i64 51]) ∧ Below w.heap.size w w') := ⟨fun w => civBad_c n w hn⟩
  clear hn
  go_enter Tryz.func116, Tryz.ntmps116
  go_upto_if 20 with (first | (go_at_call 136; go_loud ((with_reducible refine (HC.out _).mono ?_); rintro x w2 ⟨rfl, hb⟩; replace HB := am (xaC HB.out hb); clear hb)) | ((with_reducible refine xaJ (N := 8) rfl ?_); refine bxv 8 #[.int .i64 0, .int .i64 0, .int .i64 0] 198 ?_; intro g hg w3 hbox hb; have Bg := am hbox; have HBg := HB; replace HB := am (xaC HB.out hb); have HGg := am hg; have HLg := am (xaM hbox); clear hb hbox hg; have hgb : xaA (w.heap.size ≤ g) := ⟨by have h1 := HGg.out; have h2 := HBg.out.size; omega⟩; have cg_ := cz3 Bg))
  clear cg_
  have B3 := am (put3 (.int .i64 0) (.int .i64 0) (.int .i64 0) Bg.out)
  have HB3 : xaA (Below w.heap.size w (((w3.setCell ⟨g, 0, none⟩ (.int .i64 0)).setCell ⟨g, 1, none⟩ (.int .i64 0)).setCell ⟨g, 2, none⟩ (.int .i64 0))) := ⟨xaF (xaF (xaF HB.out hgb.out) hgb.out) hgb.out⟩
  clear Bg HB
  generalize (((w3.setCell ⟨g, 0, none⟩ (.int .i64 0)).setCell ⟨g, 1, none⟩ (.int .i64 0)).setCell ⟨g, 2, none⟩ (.int .i64 0)) = w4 at *
  have Bg := B3;have HB := HB3;clear B3 HB3
  go_wp2_with fail
  go_ret2
  exact ⟨rfl, HB.out⟩
end Go.Proofs.YtkabcgmegljebaaGreatDoor.D
namespace Go.Proofs.YtkabcgmegljebaaGreatDoor.H
open Go.RowKit Go.Proofs.YtkabcgmegljebaaGreatDoorW.PrintWords Go.Proofs.YtkabcgmegljebaaGreatDoorW.PrintLast Go.Proofs.YtkabcgmegljebaaGreatDoorW.PrintMore
open Go.Proofs.YtkabcgmegljebaaGreatDoor.Q
theorem calWithin0 (w : World) : Calls Tryz.prog 190 #[.int .i64 0, .int .i64 0, .int .i64 126] w fun e w' => e = .returned (.bool true) ∧ w' = w := by
 go_enter Tryz.func190, Tryz.ntmps190
 go_wp2
 go_ret
 exact ⟨rfl, rfl⟩
theorem xiH (A : Option Addr) (c : Nat) (w : World) : Calls Tryz.prog 178 #[.agg #[.int .i64 0, .slice A 0 c]] w fun e w' => e = .returned (.tuple #[.int .i64 0, .int .i64 0]) ∧ Below w.heap.size w w' := by
 go_enter Tryz.func178, Tryz.ntmps178
 go_wp2_with (go_at_call 190; (with_reducible refine (calWithin0 _).mono ?_); rintro e w' ⟨rfl, hw_⟩; obtain rfl := hw_.symm)
 go_loopg [18] 1 (fun kq v18 w' => v18 = .int .i64 0 ∧ Below w.heap.size w w')
 case atStart => exact ⟨rfl, xaH (Below.refl _ _) _⟩
 case round =>
  obtain ⟨rfl, hb⟩ := hrel
  have HB := am hb;clear hb
  go_wp2_with fail
  go_ret2
  exact ⟨rfl, HB.out⟩
theorem xlS (A : Option Addr) (c : Nat) (w : World) : Calls Tryz.prog 174 #[.agg #[.int .i64 0, .slice A 0 c]] w fun e w' => ∃ v, e = .returned (.tuple #[v, .int .i64 0]) ∧ Below w.heap.size w w' := by
 have hmm := @run_makeMap Tryz.prog
 have B1 := am (xbF w (.cells #[.int .i64 0, .slice A 0 c] 115))
 have HB1 := am (xaH (Below.refl w.heap.size w) (.cells #[.int .i64 0, .slice A 0 c] 115))
 obtain ⟨c0, c1, z0, z1⟩ := blk2 B1
 go_enter Tryz.func174, Tryz.ntmps174
 go_wp2_with (go_at_call 178; (with_reducible refine (xiH _ _ _).mono ?_); rintro e w1 ⟨rfl, hb⟩; have HB2 := am (HB1.out.trans (hb.mono HB1.out.size)); have B2 := am (xaD B1.out hb); clear hb c0 c1 z0 z1; obtain ⟨c0, c1, z0, z1⟩ := blk2 B2)
 go_ret2
 exact ⟨_, rfl, xaH (xaH (xaH HB2.out _) _) _⟩
theorem calIs (n : Int) (w : World) (b : Bool) (hb : decide (0 ≤ n ∧ n ≤ 109572) = b) : Calls Tryz.prog 175 #[.int .i64 n] w fun e w' => e = .returned (.bool b) ∧ w' = w := by
 have hw : ∀ (w : World), Calls Tryz.prog 190 #[.int .i64 n, .int .i64 0, .int .i64 109572] w fun e w' => e = .returned (.bool b) ∧ w' = w := fun w => by
  by_cases h1 : 0 ≤ n
  ·
   have t1 : decide (n ≥ 0) = true := decide_eq_true h1
   have t2 : decide (n ≤ 109572) = b := by rw [← hb, decide_eq_decide]; omega
   clear hb
   go_enter Tryz.func190, Tryz.ntmps190
   go_wp2
   go_ret
   exact ⟨rfl, rfl⟩
  ·
   have t1 : decide (n ≥ 0) = false := decide_eq_false h1
   have hb2 : b = false := by rw [← hb]; exact decide_eq_false (fun h => h1 h.1)
   subst hb2;clear hb
   go_enter Tryz.func190, Tryz.ntmps190
   go_wp2
   go_ret
   exact ⟨rfl, rfl⟩
 have HW := am hw;clear hw hb
 go_enter Tryz.func175, Tryz.ntmps175
 go_wp2_with (go_at_call 190; (with_reducible refine (HW.out _).mono ?_); rintro e w' ⟨rfl, hw_⟩; obtain rfl := hw_.symm)
 go_ret
 exact ⟨rfl, rfl⟩
def adj0 (n : Int) : Int × Int := if 0 ≤ n ∧ n ≤ 109572 then (n, 0) else (0, 51)
theorem calAdjust0 (A : Option Addr) (c : Nat) (n : Int) (w : World) : Calls Tryz.prog 163 #[.agg #[.int .i64 0, .slice A 0 c], .int .i64 n, .int .i64 0] w fun e w' => e = .returned (.tuple #[.int .i64 (adj0 n).1, .int .i64 (adj0 n).2]) ∧ Below w.heap.size w w' := by
 have B1 := am (xbF w (.cells #[.int .i64 0, .slice A 0 c] 115))
 have HB1 := am (xaH (Below.refl w.heap.size w) (.cells #[.int .i64 0, .slice A 0 c] 115))
 obtain ⟨c0, c1, z0, z1⟩ := blk2 B1
 by_cases h : 0 ≤ n ∧ n ≤ 109572
 ·
  have hi := fun w => calIs n w true (decide_eq_true h)
  have e1 : adj0 n = (n, 0) := by unfold adj0; rw [if_pos h]
  rw [e1]
  have HI := am hi;clear hi h e1
  go_enter Tryz.func163, Tryz.ntmps163
  go_wp2_with (first | (go_at_call 174; (with_reducible refine (xlS _ _ _).mono ?_); rintro e w1 ⟨v, rfl, hb⟩; have HB2 := am (HB1.out.trans (hb.mono HB1.out.size)); clear hb) | (go_at_call 175; (with_reducible refine (HI.out _).mono ?_); rintro e w' ⟨rfl, hw_⟩; obtain rfl := hw_.symm))
  go_ret2
  exact ⟨rfl, HB2.out⟩
 ·
  have hi := fun w => calIs n w false (decide_eq_false h)
  have e1 : adj0 n = (0, 51) := by unfold adj0; rw [if_neg h]
  rw [e1]
  have HI := am hi;clear hi h e1
  go_enter Tryz.func163, Tryz.ntmps163
  go_wp2_with (first | (go_at_call 174; (with_reducible refine (xlS _ _ _).mono ?_); rintro e w1 ⟨v, rfl, hb⟩; have HB2 := am (HB1.out.trans (hb.mono HB1.out.size)); clear hb) | (go_at_call 175; (with_reducible refine (HI.out _).mono ?_); rintro e w' ⟨rfl, hw_⟩; obtain rfl := hw_.symm))
  go_ret2
  exact ⟨rfl, HB2.out⟩
end Go.Proofs.YtkabcgmegljebaaGreatDoor.H
namespace Go.Proofs.YtkabcgmegljebaaGreatDoor.Q
open Go.RowKit Go.Proofs.YtkabcgmegljebaaGreatDoorW.PrintWords Go.Proofs.YtkabcgmegljebaaGreatDoorW.PrintLast Go.Proofs.YtkabcgmegljebaaGreatDoorW.PrintMore
attribute [local go_sem] xbV xbT xcM xcL xbN xbM xbU xbS
def xeG.f (a0_0 : Int) (l0_1 : List S214)  : Option (Int × Int) := if a0_0 = 0 ∧ l0_1.length = 0 then some (0, 0) else none
theorem xeG.calls (a0_0 : Int) (A0_1 : Option Addr) (c0_1 : Nat) (l0_1 : List (S214)) (r1 r2 : Int) (w : World) (hr0_1 : Kd.C k214 w A0_1 l0_1.length l0_1) (hc0_1 : l0_1.length ≤ c0_1) (h : xeG.f a0_0 l0_1  = some (r1, r2)) :
  Calls Tryz.prog 178 #[.agg #[.int .i64 a0_0, .slice A0_1 l0_1.length c0_1]] w fun e w' => e = .returned (.tuple #[.int .i64 r1, .int .i64 r2]) ∧ Below w.heap.size w w' := by
 unfold xeG.f at h
 split at h
 ·
  rename_i hc
  obtain ⟨rfl, hl⟩ := hc
  rw [hl]
  injection h with h; injection h with h1 h2; subst h1 h2
  exact Go.Proofs.YtkabcgmegljebaaGreatDoor.H.xiH _ _ _
 ·
  cases h
-- NOT PRINTED: function 46 (code_op)
-- NOT PRINTED: function 27 (code_Compile)
-- NOT PRINTED: function 193 (cal_kind)
def xdR.f (a0 : Int) : Option (Bool) := if a0 ≥ 0 then (some (decide (a0 ≤ 109572))) else (some false)
theorem xdR.calls (a0 : Int) (r : Bool) (w : World) (h : xdR.f a0 = some r) :
  Calls Tryz.prog 179 #[.int .i64 a0] w fun e w' => e = .returned (.bool r) ∧ xcG w w' := by
 have H : (if a0 ≥ 0 then (some (decide (a0 ≤ 109572))) else (some false)) = some r := h
 clear h
 by_cases c2 : a0 ≥ 0
 ·
  rw [if_pos c2] at H
  have c2b0 : decide (0 ≤ a0) = true := decide_eq_true c2
  clear c2
  obtain rfl := Option.some.inj H
  go_enter Tryz.func179, Tryz.ntmps179
  go_wp2
  go_ret
  exact ⟨eS, eD⟩
 ·
  rw [if_neg c2] at H
  have c2b0 : decide (0 ≤ a0) = false := decide_eq_false c2
  clear c2
  obtain rfl := Option.some.inj H
  go_enter Tryz.func179, Tryz.ntmps179
  go_wp2
  go_ret
  exact ⟨eS, eD⟩
def xbB.l0 : Nat → Int → Int → Int → Int → Option (Int)
  | 0, _, _, _, _ => none
  | k + 1, x0, x3, x7, x8 => if x8 < x3 then ((xcE.f x8).bind fun t980 => (if t980 = true then (xbB.l0 k x0 x3 (wrap64 (x7 + 366)) (wrap64 (x8 + 1))) else (xbB.l0 k x0 x3 x7 (wrap64 (x8 + 1))))) else ((xcE.f x3).bind fun t981 => (if t981 = true then ((xeX.f k x3 1 1).bind fun bt982 => (some (wrap64 (x7 + (wrap64 (x0 - bt982.1)))))) else (some x7)))
def xbB.f (k : Nat) (a0 : Int) : Option (Int) := (xbH.f k a0).bind fun bt976 => (xbB.l0 k a0 bt976.1 0 1900)
theorem xbB.calls (k : Nat) (a0 r : Int) (w : World) (h : xbB.f k a0 = some r) :
  Calls Tryz.prog 180 #[.int .i64 a0] w fun e w' => e = .returned (.int .i64 r) ∧ xcG w w' := by
 have H : ((xbH.f k a0).bind fun bt976 => (xbB.l0 k a0 bt976.1 0 1900)) = some r := h
 clear h;replace H := Option.bind_eq_some_iff.mp H
 obtain ⟨⟨t976, t977, t978, t979⟩, A20, H⟩ := H
 replace H : (xbB.l0 k a0 t976 0 1900) = some r := H
 have A2 := am A20;clear A20;have H' := am H;clear H
 go_enter Tryz.func180, Tryz.ntmps180
 go_wp2_with (first | ((with_reducible refine gG 186 ?_); refine goA (some 13) Tryz.func186 #[.int .i64 a0] ?_; (with_reducible refine (xbH.calls k a0 t976 t977 t978 t979 _ A2.out).mono ?_); rintro e w' ⟨rfl, ⟨nd, rfl⟩⟩; refine ⟨_, rfl, ?_⟩))
 go_loopg [7, 8] k (fun kq v7 v8 w' => ∃ (x7_1 : Int) (x8_1 : Int), v7 = .int .i64 x7_1 ∧ v8 = .int .i64 x8_1 ∧ xaA (xbB.l0 kq a0 t976 x7_1 x8_1 = some r) ∧ xaA (kq ≤ k) ∧ xcG w w')
 case atStart => exact ⟨(0), (1900), eS, eS, H', ⟨Nat.le_refl _⟩, eD⟩
 case round =>
  clear H'
  obtain ⟨x7_1, x8_1, rfl, rfl, HA, HK1, ⟨m1, rfl⟩⟩ := hrel
  cases gk with
  | zero => exact absurd HA.out (by simp [xbB.l0])
  | succ k1 =>
   have H := HA.out;clear HA
   simp only [xbB.l0] at H
   by_cases c3 : x8_1 < t976
   ·
    rw [if_pos c3] at H
    have c3b0 : decide (x8_1 < t976) = true := decide_eq_true c3
    clear c3;replace H := Option.bind_eq_some_iff.mp H
    obtain ⟨t980, A40, H⟩ := H
    replace H : (if t980 = true then (xbB.l0 k1 a0 t976 (wrap64 (x7_1 + 366)) (wrap64 (x8_1 + 1))) else (xbB.l0 k1 a0 t976 x7_1 (wrap64 (x8_1 + 1)))) = some r := H
    have A4 := am A40;clear A40
    by_cases c5 : t980 = true
    ·
     subst c5
     have H1 : (xbB.l0 k1 a0 t976 (wrap64 (x7_1 + 366)) (wrap64 (x8_1 + 1))) = some r := by rw [if_pos rfl] at H; exact H
     clear H;have H := H1;clear H1;have H' := am H;clear H
     go_wp2_with (first | ((with_reducible refine gG 121 ?_); refine goA (some 24) Tryz.func121 #[.int .i64 x8_1] ?_; (with_reducible refine (xcE.calls x8_1 true _ A4.out).mono ?_); rintro e w' ⟨rfl, ⟨nd, rfl⟩⟩; refine ⟨_, rfl, ?_⟩))
     go_roundg k1
     case measure => have := HK1.out; omega
     case rel => exact ⟨(wrap64 (x7_1 + 366)), (wrap64 (x8_1 + 1)), eS, eS, H', ⟨by have := HK1.out; omega⟩, eD⟩
    ·
     replace c5 := Bool.eq_false_iff.mpr c5;subst c5
     have H1 : (xbB.l0 k1 a0 t976 x7_1 (wrap64 (x8_1 + 1))) = some r := by rw [if_neg (show ¬ (false = true) by decide)] at H; exact H
     clear H;have H := H1;clear H1;have H' := am H;clear H
     go_wp2_with (first | ((with_reducible refine gG 121 ?_); refine goA (some 24) Tryz.func121 #[.int .i64 x8_1] ?_; (with_reducible refine (xcE.calls x8_1 false _ A4.out).mono ?_); rintro e w' ⟨rfl, ⟨nd, rfl⟩⟩; refine ⟨_, rfl, ?_⟩))
     go_roundg k1
     case measure => have := HK1.out; omega
     case rel => exact ⟨(x7_1), (wrap64 (x8_1 + 1)), eS, eS, H', ⟨by have := HK1.out; omega⟩, eD⟩
   ·
    rw [if_neg c3] at H
    have c3b0 : decide (x8_1 < t976) = false := decide_eq_false c3
    clear c3;replace H := Option.bind_eq_some_iff.mp H
    obtain ⟨t981, A60, H⟩ := H
    replace H : (if t981 = true then ((xeX.f k1 t976 1 1).bind fun bt982 => (some (wrap64 (x7_1 + (wrap64 (a0 - bt982.1)))))) else (some x7_1)) = some r := H
    have A6 := am A60;clear A60
    by_cases c7 : t981 = true
    ·
     subst c7
     have H1 : ((xeX.f k1 t976 1 1).bind fun bt982 => (some (wrap64 (x7_1 + (wrap64 (a0 - bt982.1)))))) = some r := by rw [if_pos rfl] at H; exact H
     clear H;have H := H1;clear H1;replace H := Option.bind_eq_some_iff.mp H
     obtain ⟨⟨t982, t983⟩, A80, H⟩ := H
     replace H : (some (wrap64 (x7_1 + (wrap64 (a0 - t982))))) = some r := H
     have A8 := am A80;clear A80
     obtain rfl := Option.some.inj H
     go_wp2_with (first | ((with_reducible refine gG 121 ?_); refine goA (some 28) Tryz.func121 #[.int .i64 t976] ?_; (with_reducible refine (xcE.calls t976 true _ A6.out).mono ?_); rintro e w' ⟨rfl, ⟨nd, rfl⟩⟩; refine ⟨_, rfl, ?_⟩) | ((with_reducible refine gG 188 ?_); refine goA (some 31) Tryz.func188 #[.int .i64 t976, .int .i64 1, .int .i64 1] ?_; (with_reducible refine (xeX.calls k1 t976 1 1 t982 t983 _ A8.out).mono ?_); rintro e w' ⟨rfl, ⟨nd, rfl⟩⟩; refine ⟨_, rfl, ?_⟩))
     go_ret
     exact ⟨eS, eD⟩
    ·
     replace c7 := Bool.eq_false_iff.mpr c7;subst c7
     have H1 : (some x7_1) = some r := by rw [if_neg (show ¬ (false = true) by decide)] at H; exact H
     clear H;have H := H1;clear H1
     obtain rfl := Option.some.inj H
     go_wp2_with (first | ((with_reducible refine gG 121 ?_); refine goA (some 28) Tryz.func121 #[.int .i64 t976] ?_; (with_reducible refine (xcE.calls t976 false _ A6.out).mono ?_); rintro e w' ⟨rfl, ⟨nd, rfl⟩⟩; refine ⟨_, rfl, ?_⟩))
     go_ret
     exact ⟨eS, eD⟩
def xbW.f (k : Nat) (a0 a1 : Int) (a2 : Bool) : Option (Int) := (xbH.f k a0).bind fun bt984 => ((xbH.f k a1).bind fun bt988 => (if a2 = true then (some (wrap64 ((wrap64 ((wrap64 ((wrap64 (360 * (wrap64 (bt988.1 - bt984.1)))) + (wrap64 (30 * (wrap64 (bt988.2.1 - bt984.2.1)))))) + (mn bt988.2.2.1 30))) - (mn bt984.2.2.1 30)))) else (if (mn bt984.2.2.1 30) = 30 then (some (wrap64 ((wrap64 ((wrap64 ((wrap64 (360 * (wrap64 (bt988.1 - bt984.1)))) + (wrap64 (30 * (wrap64 (bt988.2.1 - bt984.2.1)))))) + (mn bt988.2.2.1 30))) - (mn bt984.2.2.1 30)))) else (some (wrap64 ((wrap64 ((wrap64 ((wrap64 (360 * (wrap64 (bt988.1 - bt984.1)))) + (wrap64 (30 * (wrap64 (bt988.2.1 - bt984.2.1)))))) + bt988.2.2.1)) - (mn bt984.2.2.1 30)))))))
theorem xbW.calls (k : Nat) (a0 a1 : Int) (a2 : Bool) (r : Int) (w : World) (h : xbW.f k a0 a1 a2 = some r) :
  Calls Tryz.prog 181 #[.int .i64 a0, .int .i64 a1, .bool a2] w fun e w' => e = .returned (.int .i64 r) ∧ Below w.heap.size w w' := by
 have HB := am (Below.refl w.heap.size w)
 have H : ((xbH.f k a0).bind fun bt984 => ((xbH.f k a1).bind fun bt988 => (if a2 = true then (some (wrap64 ((wrap64 ((wrap64 ((wrap64 (360 * (wrap64 (bt988.1 - bt984.1)))) + (wrap64 (30 * (wrap64 (bt988.2.1 - bt984.2.1)))))) + (mn bt988.2.2.1 30))) - (mn bt984.2.2.1 30)))) else (if (mn bt984.2.2.1 30) = 30 then (some (wrap64 ((wrap64 ((wrap64 ((wrap64 (360 * (wrap64 (bt988.1 - bt984.1)))) + (wrap64 (30 * (wrap64 (bt988.2.1 - bt984.2.1)))))) + (mn bt988.2.2.1 30))) - (mn bt984.2.2.1 30)))) else (some (wrap64 ((wrap64 ((wrap64 ((wrap64 (360 * (wrap64 (bt988.1 - bt984.1)))) + (wrap64 (30 * (wrap64 (bt988.2.1 - bt984.2.1)))))) + bt988.2.2.1)) - (mn bt984.2.2.1 30)))))))) = some r := h
 clear h;replace H := Option.bind_eq_some_iff.mp H
 obtain ⟨⟨t984, t985, t986, t987⟩, A40, H⟩ := H
 replace H : ((xbH.f k a1).bind fun bt988 => (if a2 = true then (some (wrap64 ((wrap64 ((wrap64 ((wrap64 (360 * (wrap64 (bt988.1 - t984)))) + (wrap64 (30 * (wrap64 (bt988.2.1 - t985)))))) + (mn bt988.2.2.1 30))) - (mn t986 30)))) else (if (mn t986 30) = 30 then (some (wrap64 ((wrap64 ((wrap64 ((wrap64 (360 * (wrap64 (bt988.1 - t984)))) + (wrap64 (30 * (wrap64 (bt988.2.1 - t985)))))) + (mn bt988.2.2.1 30))) - (mn t986 30)))) else (some (wrap64 ((wrap64 ((wrap64 ((wrap64 (360 * (wrap64 (bt988.1 - t984)))) + (wrap64 (30 * (wrap64 (bt988.2.1 - t985)))))) + bt988.2.2.1)) - (mn t986 30))))))) = some r := H
 have A4 := am A40;clear A40;replace H := Option.bind_eq_some_iff.mp H
 obtain ⟨⟨t988, t989, t990, t991⟩, A50, H⟩ := H
 replace H : (if a2 = true then (some (wrap64 ((wrap64 ((wrap64 ((wrap64 (360 * (wrap64 (t988 - t984)))) + (wrap64 (30 * (wrap64 (t989 - t985)))))) + (mn t990 30))) - (mn t986 30)))) else (if (mn t986 30) = 30 then (some (wrap64 ((wrap64 ((wrap64 ((wrap64 (360 * (wrap64 (t988 - t984)))) + (wrap64 (30 * (wrap64 (t989 - t985)))))) + (mn t990 30))) - (mn t986 30)))) else (some (wrap64 ((wrap64 ((wrap64 ((wrap64 (360 * (wrap64 (t988 - t984)))) + (wrap64 (30 * (wrap64 (t989 - t985)))))) + t990)) - (mn t986 30)))))) = some r := H
 have A5 := am A50;clear A50
 obtain ⟨ji6, hji6⟩ : ∃ j_ : Int, (mn t986 30) = j_ := ⟨_, rfl⟩
 replace H : (if a2 = true then (some (wrap64 ((wrap64 ((wrap64 ((wrap64 (360 * (wrap64 (t988 - t984)))) + (wrap64 (30 * (wrap64 (t989 - t985)))))) + (mn t990 30))) - (ji6)))) else (if (ji6) = 30 then (some (wrap64 ((wrap64 ((wrap64 ((wrap64 (360 * (wrap64 (t988 - t984)))) + (wrap64 (30 * (wrap64 (t989 - t985)))))) + (mn t990 30))) - (ji6)))) else (some (wrap64 ((wrap64 ((wrap64 ((wrap64 (360 * (wrap64 (t988 - t984)))) + (wrap64 (30 * (wrap64 (t989 - t985)))))) + t990)) - (ji6)))))) = some r := by first | (rw [hji6] at H; exact H) | (simp only [hji6] at H ⊢; exact H)
 (try rw [hji6] at A4)
 (try rw [hji6] at A5)
 (try (have hji6h : ji6 ≤ 30 := by (rw [← hji6]; unfold mn; (repeat' split) <;> omega)))
 (try (have hji6g : ji6 ≤ 64 := by omega))
 have hji6_ : (if 30 < t986 then 30 else t986) = ji6 := hji6
 by_cases c7 : a2 = true
 ·
  subst c7
  have H1 : (some (wrap64 ((wrap64 ((wrap64 ((wrap64 (360 * (wrap64 (t988 - t984)))) + (wrap64 (30 * (wrap64 (t989 - t985)))))) + (mn t990 30))) - (ji6)))) = some r := by rw [if_pos rfl] at H; exact H
  clear H;have H := H1;clear H1
  obtain ⟨ji8, hji8⟩ : ∃ j_ : Int, (mn t990 30) = j_ := ⟨_, rfl⟩
  replace H : (some (wrap64 ((wrap64 ((wrap64 ((wrap64 (360 * (wrap64 (t988 - t984)))) + (wrap64 (30 * (wrap64 (t989 - t985)))))) + (ji8))) - (ji6)))) = some r := by first | (rw [hji8] at H; exact H) | (simp only [hji8] at H ⊢; exact H)
  (try rw [hji8] at A4)
  (try rw [hji8] at A5)
  (try (have hji8h : ji8 ≤ 30 := by (rw [← hji8]; unfold mn; (repeat' split) <;> omega)))
  (try (have hji8g : ji8 ≤ 64 := by omega))
  have hji8_ : (if 30 < t990 then 30 else t990) = ji8 := hji8
  obtain rfl := Option.some.inj H
  go_enter Tryz.func181, Tryz.ntmps181
  go_wp2_with (first | ((with_reducible refine gG 186 ?_); refine goA (some 17) Tryz.func186 #[.int .i64 a0] ?_; (with_reducible refine (xbH.calls k a0 t984 t985 t986 t987 _ A4.out).mono ?_); rintro e w' ⟨rfl, ⟨nd, rfl⟩⟩; refine ⟨_, rfl, ?_⟩) | ((with_reducible refine gG 186 ?_); refine goA (some 24) Tryz.func186 #[.int .i64 a1] ?_; (with_reducible refine (xbH.calls k a1 t988 t989 t990 t991 _ A5.out).mono ?_); rintro e w' ⟨rfl, ⟨nd, rfl⟩⟩; refine ⟨_, rfl, ?_⟩))
  go_ret
  exact ⟨by first | rfl | (simp [xcX, xcW] <;> rfl) | (simp only [← hji6, ← hji8]; first | rfl | (simp [xcX, xcW] <;> rfl)) | (simp [*, xcX, xcW] <;> rfl), bB⟩
 ·
  replace c7 := Bool.eq_false_iff.mpr c7;subst c7
  have H1 : (if (ji6) = 30 then (some (wrap64 ((wrap64 ((wrap64 ((wrap64 (360 * (wrap64 (t988 - t984)))) + (wrap64 (30 * (wrap64 (t989 - t985)))))) + (mn t990 30))) - (ji6)))) else (some (wrap64 ((wrap64 ((wrap64 ((wrap64 (360 * (wrap64 (t988 - t984)))) + (wrap64 (30 * (wrap64 (t989 - t985)))))) + t990)) - (ji6))))) = some r := by rw [if_neg (show ¬ (false = true) by decide)] at H; exact H
  clear H;have H := H1;clear H1
  by_cases c9 : (ji6) = 30
  ·
   rw [if_pos c9] at H
   have c9b0 : ((ji6) == 30) = true := beq_iff_eq.mpr c9
   have c9b1 : ((ji6) != 30) = false := bne_eq_false_iff_eq.mpr c9
   clear c9
   obtain ⟨ji10, hji10⟩ : ∃ j_ : Int, (mn t990 30) = j_ := ⟨_, rfl⟩
   replace H : (some (wrap64 ((wrap64 ((wrap64 ((wrap64 (360 * (wrap64 (t988 - t984)))) + (wrap64 (30 * (wrap64 (t989 - t985)))))) + (ji10))) - (ji6)))) = some r := by first | (rw [hji10] at H; exact H) | (simp only [hji10] at H ⊢; exact H)
   (try rw [hji10] at A4)
   (try rw [hji10] at A5)
   (try (have hji10h : ji10 ≤ 30 := by (rw [← hji10]; unfold mn; (repeat' split) <;> omega)))
   (try (have hji10g : ji10 ≤ 64 := by omega))
   have hji10_ : (if 30 < t990 then 30 else t990) = ji10 := hji10
   obtain rfl := Option.some.inj H
   go_enter Tryz.func181, Tryz.ntmps181
   go_wp2_with (first | ((with_reducible refine gG 186 ?_); refine goA (some 17) Tryz.func186 #[.int .i64 a0] ?_; (with_reducible refine (xbH.calls k a0 t984 t985 t986 t987 _ A4.out).mono ?_); rintro e w' ⟨rfl, ⟨nd, rfl⟩⟩; refine ⟨_, rfl, ?_⟩) | ((with_reducible refine gG 186 ?_); refine goA (some 24) Tryz.func186 #[.int .i64 a1] ?_; (with_reducible refine (xbH.calls k a1 t988 t989 t990 t991 _ A5.out).mono ?_); rintro e w' ⟨rfl, ⟨nd, rfl⟩⟩; refine ⟨_, rfl, ?_⟩))
   go_ret
   exact ⟨by first | rfl | (simp [xcX, xcW] <;> rfl) | (simp only [← hji6, ← hji10]; first | rfl | (simp [xcX, xcW] <;> rfl)) | (simp [*, xcX, xcW] <;> rfl), bB⟩
  ·
   rw [if_neg c9] at H
   have c9b0 : ((ji6) == 30) = false := beq_eq_false_iff_ne.mpr c9
   have c9b1 : ((ji6) != 30) = true := bne_iff_ne.mpr c9
   obtain rfl := Option.some.inj H
   go_enter Tryz.func181, Tryz.ntmps181
   go_wp2_with (first | ((with_reducible refine gG 186 ?_); refine goA (some 17) Tryz.func186 #[.int .i64 a0] ?_; (with_reducible refine (xbH.calls k a0 t984 t985 t986 t987 _ A4.out).mono ?_); rintro e w' ⟨rfl, ⟨nd, rfl⟩⟩; refine ⟨_, rfl, ?_⟩) | ((with_reducible refine gG 186 ?_); refine goA (some 24) Tryz.func186 #[.int .i64 a1] ?_; (with_reducible refine (xbH.calls k a1 t988 t989 t990 t991 _ A5.out).mono ?_); rintro e w' ⟨rfl, ⟨nd, rfl⟩⟩; refine ⟨_, rfl, ?_⟩))
   go_ret
   exact ⟨by first | rfl | (have e_ : t986 = ji6 := (by by_cases h_ : 30 < t986 <;> simp only [h_, if_true, if_false] at hji6_ <;> omega); rw [e_]; rfl) | (simp [xcX, xcW] <;> rfl) | (simp only [← hji6]; first | rfl | (simp [xcX, xcW] <;> rfl)) | (simp [*, xcX, xcW] <;> rfl), bB⟩
def xeQ.f (a0_0 : Int) (l0_1 : List S214) (a1 a2 : Int) : Option (Int × Int) := if a0_0 = 0 ∧ l0_1.length = 0 ∧ False then some (0, 0) else none
theorem xeQ.calls (a0_0 : Int) (A0_1 : Option Addr) (c0_1 : Nat) (l0_1 : List (S214)) (a1 a2 r1 r2 : Int) (w : World) (hr0_1 : Kd.C k214 w A0_1 l0_1.length l0_1) (hc0_1 : l0_1.length ≤ c0_1) (h : xeQ.f a0_0 l0_1 a1 a2 = some (r1, r2)) :
  Calls Tryz.prog 182 #[.agg #[.int .i64 a0_0, .slice A0_1 l0_1.length c0_1], .int .i64 a1, .int .i64 a2] w fun e w' => e = .returned (.tuple #[.int .i64 r1, .int .i64 r2]) ∧ Below w.heap.size w w' := by
 unfold xeQ.f at h
 split at h
 ·
  rename_i hc
  exact hc.2.2.elim
 ·
  cases h
mutual
def xaL.j0 : Nat → Int → Int → Int → Int → Int → Bool → Int → List (S214) → Option (Int × Int × Int)
  | 0, _, _, _, _, _, _, _, _ => none
  | k + 1, x0, x2, x3, x8, x10, x19, x993000, x993001 => if x19 = true then (some (0, 0, 70)) else (if x0 = 6 then ((xeG.f x993000 x993001).bind fun bt993 => (if bt993.1 = 0 then (xaL.j1 k x0 x2 x3 x8 x10 x993000 x993001) else (some (0, 0, bt993.1)))) else (xaL.j1 k x0 x2 x3 x8 x10 x993000 x993001))
def xaL.j1 : Nat → Int → Int → Int → Int → Int → Int → List (S214) → Option (Int × Int × Int)
  | 0, _, _, _, _, _, _, _ => none
  | k + 1, x0, x2, x3, x8, x10, x993000, x993001 => (xdR.f x2).bind fun t995 => (if t995 = true then ((xdR.f x3).bind fun t996 => (xaL.j2 k x0 x2 x3 x8 x10 (!t996) x993000 x993001)) else (xaL.j2 k x0 x2 x3 x8 x10 true x993000 x993001))
def xaL.j2 : Nat → Int → Int → Int → Int → Int → Bool → Int → List (S214) → Option (Int × Int × Int)
  | 0, _, _, _, _, _, _, _, _ => none
  | k + 1, x0, x2, x3, x8, x10, x37, x993000, x993001 => if x37 = true then (some (0, 0, 51)) else (if x3 < x2 then ((xaL.f k x0 x993000 x993001 x3 x2).bind fun bt997 => (some (wrap64 (-bt997.1), bt997.2.1, bt997.2.2))) else (if x0 = 2 then (some (wrap64 (x3 - x2), 365, x10)) else (if x0 = 1 then (some (wrap64 (x3 - x2), 360, x10)) else (if x0 = 3 then ((xbB.f k x3).bind fun t1004 => ((xbB.f k x2).bind fun t1005 => (some (wrap64 ((wrap64 (366 * (wrap64 ((wrap64 (x3 - x2)) - (wrap64 (t1004 - t1005)))))) + (wrap64 (365 * (wrap64 (t1004 - t1005))))), 133590, x10)))) else (if x0 = 5 then ((xbW.f k x2 x3 true).bind fun t1000 => (some (t1000, 360, x10))) else (if x0 = 4 then ((xbW.f k x2 x3 false).bind fun t1001 => (some (t1001, 360, x10))) else (if x0 = 6 then ((xeQ.f x993000 x993001 x2 x3).bind fun bt1002 => (some (bt1002.1, 252, bt1002.2))) else (some (x8, 360, x10)))))))))
def xaL.f : Nat → Int → Int → List (S214) → Int → Int → Option (Int × Int × Int)
  | 0, _, _, _, _, _ => none
  | k + 1, a0, a1_0, l1_1, a2, a3 => if a0 < 1 then (xaL.j0 k a0 a2 a3 0 0 true a1_0 l1_1) else (xaL.j0 k a0 a2 a3 0 0 (decide (a0 > 6)) a1_0 l1_1)
end
theorem xaL.calls (k : Nat) : ∀ (a0 a1_0 : Int) (A1_1 : Option Addr) (c1_1 : Nat) (l1_1 : List (S214)) (a2 a3 r1 r2 r3 : Int) (w : World) (hr1_1 : Kd.C k214 w A1_1 l1_1.length l1_1) (hc1_1 : l1_1.length ≤ c1_1) (h : xaL.f k a0 a1_0 l1_1 a2 a3 = some (r1, r2, r3)),
  Calls Tryz.prog 165 #[.int .i64 a0, .agg #[.int .i64 a1_0, .slice A1_1 l1_1.length c1_1], .int .i64 a2, .int .i64 a3] w fun e w' => e = .returned (.tuple #[.int .i64 r1, .int .i64 r2, .int .i64 r3]) ∧ Below w.heap.size w w' := by
 induction k using Nat.strongRecOn with
 | _ k ih =>
 intro a0 a1_0 A1_1 c1_1 l1_1 a2 a3 r1 r2 r3 w hr1_1 hc1_1 h
 cases k with
 | zero => exact absurd h (by simp [xaL.f])
 | succ k =>
 simp only [xaL.f] at h
 have hu115 := Tryz.underlying115;have HR1_1 := am hr1_1;have HC1_1 := am hc1_1;clear hr1_1 hc1_1
 have HB := am (Below.refl w.heap.size w)
 have H : (if a0 < 1 then (xaL.j0 k a0 a2 a3 0 0 true a1_0 l1_1) else (xaL.j0 k a0 a2 a3 0 0 (decide (a0 > 6)) a1_0 l1_1)) = some (r1, r2, r3) := h
 clear h;have HC5 := am H;clear H
 go_enter Tryz.func165, Tryz.ntmps165
 go_upto_region 1 with (first | ((with_reducible refine xaJ (N := 5) rfl ?_); refine xgF ?hg (N := 5) ?hd (cs := #[.int .i64 a1_0, .slice A1_1 l1_1.length c1_1]) (t := 115) ?hr ?_; (case hd => rfl); (case hg => rfl); (case hr => first | (go_simp; done) | (go_simp; rfl)); intro gb992 hg w6 hbox hb; have BK992 := am (hbox); have GW992 := bG hg; have GE992 := bG hg; replace HB := bS hb; clear hb hbox hg))
 (try simp only [Act.put, List.setIfInBounds_toArray, List.set_cons_zero, List.set_cons_succ])
 go_cut [19] (fun v19 wc => ∃ (kq : Nat) (x19_4 : Bool), v19 = .bool x19_4 ∧ xaA (xaL.j0 kq a0 a2 a3 0 0 x19_4 a1_0 l1_1 = some (r1, r2, r3)) ∧ xaA (kq ≤ k) ∧ xaA (wc.heap[gb992]? = some (.cells #[.int .i64 a1_0, (.slice A1_1 l1_1.length c1_1)] 115 (0, 0))) ∧ xaA (Below w.heap.size w wc))
 case first =>
  have H := HC5.out;clear HC5
  by_cases c7 : a0 < 1
  ·
   rw [if_pos c7] at H
   have c7b0 : decide (a0 < 1) = true := decide_eq_true c7
   clear c7
   (first | rw [c7b0] | (simp only [i64_w, i32_w]; rw [c7b0]) | skip)
   have H' := am H;clear H
   go_wp2
   go_meet
   case rel => exact ⟨_, (true), eS, H', ⟨eN⟩, ⟨(bk BK992)⟩, ⟨bB⟩⟩
  ·
   rw [if_neg c7] at H
   have c7b0 : decide (a0 < 1) = false := decide_eq_false c7
   clear c7
   (first | rw [c7b0] | (simp only [i64_w, i32_w]; rw [c7b0]) | skip)
   have H' := am H;clear H
   go_wp2
   go_meet
   case rel => exact ⟨_, (decide (a0 > 6)), eS, H', ⟨eN⟩, ⟨(bk BK992)⟩, ⟨bB⟩⟩
 case rest =>
  clear HC5
  obtain ⟨kq, x19_4, rfl, HA, HJ4, BK992, HB⟩ := hcut
  cases kq with
  | zero => exact absurd HA.out (by simp [xaL.j0])
  | succ kj4 =>
   have H := HA.out;clear HA
   simp only [xaL.j0] at H
   by_cases c8 : x19_4 = true
   ·
    subst c8
    have H1 : (some (0, 0, 70)) = some (r1, r2, r3) := by rw [if_pos rfl] at H; exact H
    clear H;have H := H1;clear H1
    simp only [Option.some.injEq, Prod.mk.injEq] at H
    obtain ⟨rfl, rfl, rfl⟩ := H
    go_wp2
    go_ret3
    exact ⟨eW, bB⟩
   ·
    replace c8 := Bool.eq_false_iff.mpr c8;subst c8
    have H1 : (if a0 = 6 then ((xeG.f a1_0 l1_1).bind fun bt993 => (if bt993.1 = 0 then (xaL.j1 kj4 a0 a2 a3 0 0 a1_0 l1_1) else (some (0, 0, bt993.1)))) else (xaL.j1 kj4 a0 a2 a3 0 0 a1_0 l1_1)) = some (r1, r2, r3) := by rw [if_neg (show ¬ (false = true) by decide)] at H; exact H
    clear H;have H := H1;clear H1;have HC9 := am H;clear H
    go_upto_if 21 with (fail)
    go_cut [8, 10] (fun v8 v10 wc => ∃ (kq : Nat) (x8_8 : Int) (x10_8 : Int), v8 = .int .i64 x8_8 ∧ v10 = .int .i64 x10_8 ∧ xaA (xaL.j1 kq a0 a2 a3 x8_8 x10_8 a1_0 l1_1 = some (r1, r2, r3)) ∧ xaA (kq ≤ kj4) ∧ xaA (wc.heap[gb992]? = some (.cells #[.int .i64 a1_0, (.slice A1_1 l1_1.length c1_1)] 115 (0, 0))) ∧ xaA (Below w.heap.size w wc))
    case first =>
     have H := HC9.out;clear HC9
     by_cases c10 : a0 = 6
     ·
      rw [if_pos c10] at H
      have c10b0 : (a0 == 6) = true := beq_iff_eq.mpr c10
      have c10b1 : (a0 != 6) = false := bne_eq_false_iff_eq.mpr c10
      clear c10
      (first | rw [c10b0] | (simp only [i64_w, i32_w]; rw [c10b0]) | skip)
      replace H := Option.bind_eq_some_iff.mp H
      obtain ⟨⟨t993, t994⟩, A110, H⟩ := H
      replace H : (if t993 = 0 then (xaL.j1 kj4 a0 a2 a3 0 0 a1_0 l1_1) else (some (0, 0, t993))) = some (r1, r2, r3) := H
      have A11 := am A110;clear A110
      by_cases c12 : t993 = 0
      ·
       rw [if_pos c12] at H
       have c12b0 : (t993 == 0) = true := beq_iff_eq.mpr c12
       have c12b1 : (t993 != 0) = false := bne_eq_false_iff_eq.mpr c12
       clear c12;have H' := am H;clear H
       obtain ⟨_,_,_,_⟩ := blk2 BK992
       go_wp2_with (first | ((with_reducible refine gG 178 ?_); refine goA (some 24) Tryz.func178 #[.agg #[.int .i64 a1_0, .slice A1_1 l1_1.length c1_1]] ?_; (with_reducible refine (xeG.calls a1_0 _ _ l1_1 t993 t994 _ ?side1 ?side2 A11.out).mono ?_); (case side1 => exact sC HR1_1); (case side2 => exact HC1_1.out); rintro e w14 ⟨rfl, hb⟩; refine ⟨_, rfl, ?_⟩; replace BK992 := bK BK992 hb; replace HB := bS hb; (try clear hb); (try clear hb2); (try clear hk); (try clear hi)))
       go_meet
       case rel => exact ⟨_, (0), (0), eS, eS, H', ⟨by have := HJ4.out; first | omega | exact Nat.le_refl _⟩, ⟨(bk BK992)⟩, ⟨bB⟩⟩
      ·
       rw [if_neg c12] at H
       have c12b0 : (t993 == 0) = false := beq_eq_false_iff_ne.mpr c12
       have c12b1 : (t993 != 0) = true := bne_iff_ne.mpr c12
       simp only [Option.some.injEq, Prod.mk.injEq] at H
       obtain ⟨rfl, rfl, rfl⟩ := H
       obtain ⟨_,_,_,_⟩ := blk2 BK992
       go_wp2_with (first | ((with_reducible refine gG 178 ?_); refine goA (some 24) Tryz.func178 #[.agg #[.int .i64 a1_0, .slice A1_1 l1_1.length c1_1]] ?_; (with_reducible refine (xeG.calls a1_0 _ _ l1_1 t993 t994 _ ?side1 ?side2 A11.out).mono ?_); (case side1 => exact sC HR1_1); (case side2 => exact HC1_1.out); rintro e w16 ⟨rfl, hb⟩; refine ⟨_, rfl, ?_⟩; replace BK992 := bK BK992 hb; replace HB := bS hb; (try clear hb); (try clear hb2); (try clear hk); (try clear hi)))
       go_ret3
       exact ⟨eW, bB⟩
     ·
      rw [if_neg c10] at H
      have c10b0 : (a0 == 6) = false := beq_eq_false_iff_ne.mpr c10
      have c10b1 : (a0 != 6) = true := bne_iff_ne.mpr c10
      (first | rw [c10b0] | (simp only [i64_w, i32_w]; rw [c10b0]) | skip)
      have H' := am H;clear H
      go_wp2
      go_meet
      case rel => exact ⟨_, (0), (0), eS, eS, H', ⟨by have := HJ4.out; first | omega | exact Nat.le_refl _⟩, ⟨(bk BK992)⟩, ⟨bB⟩⟩
    case rest =>
     clear HC9
     obtain ⟨kq, x8_8, x10_8, rfl, rfl, HA, HJ8, BK992, HB⟩ := hcut
     cases kq with
     | zero => exact absurd HA.out (by simp [xaL.j1])
     | succ kj8 =>
      have H := HA.out;clear HA
      simp only [xaL.j1] at H
      have HC17 := am H;clear H
      go_upto_region 7 with (fail)
      go_cut [37] (fun v37 wc => ∃ (kq : Nat) (x37_16 : Bool), v37 = .bool x37_16 ∧ xaA (xaL.j2 kq a0 a2 a3 x8_8 x10_8 x37_16 a1_0 l1_1 = some (r1, r2, r3)) ∧ xaA (kq ≤ kj8) ∧ xaA (wc.heap[gb992]? = some (.cells #[.int .i64 a1_0, (.slice A1_1 l1_1.length c1_1)] 115 (0, 0))) ∧ xaA (Below w.heap.size w wc))
      case first =>
       have H := HC17.out;clear HC17;replace H := Option.bind_eq_some_iff.mp H
       obtain ⟨t995, A180, H⟩ := H
       replace H : (if t995 = true then ((xdR.f a3).bind fun t996 => (xaL.j2 kj8 a0 a2 a3 x8_8 x10_8 (!t996) a1_0 l1_1)) else (xaL.j2 kj8 a0 a2 a3 x8_8 x10_8 true a1_0 l1_1)) = some (r1, r2, r3) := H
       have A18 := am A180;clear A180
       by_cases c19 : t995 = true
       ·
        subst c19
        have H1 : ((xdR.f a3).bind fun t996 => (xaL.j2 kj8 a0 a2 a3 x8_8 x10_8 (!t996) a1_0 l1_1)) = some (r1, r2, r3) := by rw [if_pos rfl] at H; exact H
        clear H;have H := H1;clear H1;replace H := Option.bind_eq_some_iff.mp H
        obtain ⟨t996, A200, H⟩ := H
        replace H : (xaL.j2 kj8 a0 a2 a3 x8_8 x10_8 (!t996) a1_0 l1_1) = some (r1, r2, r3) := H
        have A20 := am A200;clear A200;have H' := am H;clear H
        go_wp2_with (first | ((with_reducible refine gG 179 ?_); refine goA (some 31) Tryz.func179 #[.int .i64 a2] ?_; (with_reducible refine (xdR.calls a2 true _ A18.out).mono ?_); rintro e w' ⟨rfl, ⟨nd, rfl⟩⟩; refine ⟨_, rfl, ?_⟩) | (go_at_call 179; (with_reducible refine (xdR.calls a3 t996 _ A20.out).mono ?_); rintro e w' ⟨rfl, ⟨nd, rfl⟩⟩))
        go_meet
        case rel => exact ⟨_, (!t996), eS, H', ⟨by have := HJ4.out; have := HJ8.out; first | omega | exact Nat.le_refl _⟩, ⟨(bk BK992)⟩, ⟨bB⟩⟩
       ·
        replace c19 := Bool.eq_false_iff.mpr c19;subst c19
        have H1 : (xaL.j2 kj8 a0 a2 a3 x8_8 x10_8 true a1_0 l1_1) = some (r1, r2, r3) := by rw [if_neg (show ¬ (false = true) by decide)] at H; exact H
        clear H;have H := H1;clear H1;have H' := am H;clear H
        go_wp2_with (first | ((with_reducible refine gG 179 ?_); refine goA (some 31) Tryz.func179 #[.int .i64 a2] ?_; (with_reducible refine (xdR.calls a2 false _ A18.out).mono ?_); rintro e w' ⟨rfl, ⟨nd, rfl⟩⟩; refine ⟨_, rfl, ?_⟩))
        go_meet
        case rel => exact ⟨_, (true), eS, H', ⟨by have := HJ4.out; have := HJ8.out; first | omega | exact Nat.le_refl _⟩, ⟨(bk BK992)⟩, ⟨bB⟩⟩
      case rest =>
       clear HC17
       obtain ⟨kq, x37_16, rfl, HA, HJ16, BK992, HB⟩ := hcut
       cases kq with
       | zero => exact absurd HA.out (by simp [xaL.j2])
       | succ kj16 =>
        have H := HA.out;clear HA
        simp only [xaL.j2] at H
        by_cases c21 : x37_16 = true
        ·
         subst c21
         have H1 : (some (0, 0, 51)) = some (r1, r2, r3) := by rw [if_pos rfl] at H; exact H
         clear H;have H := H1;clear H1
         simp only [Option.some.injEq, Prod.mk.injEq] at H
         obtain ⟨rfl, rfl, rfl⟩ := H
         go_wp2
         go_ret3
         exact ⟨eW, bB⟩
        ·
         replace c21 := Bool.eq_false_iff.mpr c21;subst c21
         have H1 : (if a3 < a2 then ((xaL.f kj16 a0 a1_0 l1_1 a3 a2).bind fun bt997 => (some (wrap64 (-bt997.1), bt997.2.1, bt997.2.2))) else (if a0 = 2 then (some (wrap64 (a3 - a2), 365, x10_8)) else (if a0 = 1 then (some (wrap64 (a3 - a2), 360, x10_8)) else (if a0 = 3 then ((xbB.f kj16 a3).bind fun t1004 => ((xbB.f kj16 a2).bind fun t1005 => (some (wrap64 ((wrap64 (366 * (wrap64 ((wrap64 (a3 - a2)) - (wrap64 (t1004 - t1005)))))) + (wrap64 (365 * (wrap64 (t1004 - t1005))))), 133590, x10_8)))) else (if a0 = 5 then ((xbW.f kj16 a2 a3 true).bind fun t1000 => (some (t1000, 360, x10_8))) else (if a0 = 4 then ((xbW.f kj16 a2 a3 false).bind fun t1001 => (some (t1001, 360, x10_8))) else (if a0 = 6 then ((xeQ.f a1_0 l1_1 a2 a3).bind fun bt1002 => (some (bt1002.1, 252, bt1002.2))) else (some (x8_8, 360, x10_8))))))))) = some (r1, r2, r3) := by rw [if_neg (show ¬ (false = true) by decide)] at H; exact H
         clear H;have H := H1;clear H1
         by_cases c22 : a3 < a2
         ·
          rw [if_pos c22] at H
          have c22b0 : decide (a3 < a2) = true := decide_eq_true c22
          clear c22;replace H := Option.bind_eq_some_iff.mp H
          obtain ⟨⟨t997, t998, t999⟩, A230, H⟩ := H
          replace H : (some (wrap64 (-t997), t998, t999)) = some (r1, r2, r3) := H
          have A23 := am A230;clear A230
          simp only [Option.some.injEq, Prod.mk.injEq] at H
          obtain ⟨rfl, rfl, rfl⟩ := H
          obtain ⟨_,_,_,_⟩ := blk2 BK992
          go_wp2_with (first | ((with_reducible refine gG 165 ?_); refine goA (some 46) Tryz.func165 #[.int .i64 a0, .agg #[.int .i64 a1_0, .slice A1_1 l1_1.length c1_1], .int .i64 a3, .int .i64 a2] ?_; (with_reducible refine (ih kj16 (by have := HJ4.out; have := HJ8.out; have := HJ16.out; omega) a0 a1_0 _ _ l1_1 a3 a2 t997 t998 t999 _ ?side1 ?side2 A23.out).mono ?_); (case side1 => exact sC HR1_1); (case side2 => exact HC1_1.out); rintro e w25 ⟨rfl, hb⟩; refine ⟨_, rfl, ?_⟩; replace BK992 := bK BK992 hb; replace HB := bS hb; (try clear hb); (try clear hb2); (try clear hk); (try clear hi)))
          go_ret3
          exact ⟨eW, bB⟩
         ·
          rw [if_neg c22] at H
          have c22b0 : decide (a3 < a2) = false := decide_eq_false c22
          clear c22
          by_cases c26 : a0 = 2
          ·
           rw [if_pos c26] at H
           have c26b0 : (a0 == 2) = true := beq_iff_eq.mpr c26
           have c26b1 : (a0 != 2) = false := bne_eq_false_iff_eq.mpr c26
           clear c26
           simp only [Option.some.injEq, Prod.mk.injEq] at H
           obtain ⟨rfl, rfl, rfl⟩ := H
           go_wp2
           go_ret3
           exact ⟨eW, bB⟩
          ·
           rw [if_neg c26] at H
           have c26b0 : (a0 == 2) = false := beq_eq_false_iff_ne.mpr c26
           have c26b1 : (a0 != 2) = true := bne_iff_ne.mpr c26
           by_cases c27 : a0 = 1
           ·
            rw [if_pos c27] at H
            have c27b0 : (a0 == 1) = true := beq_iff_eq.mpr c27
            have c27b1 : (a0 != 1) = false := bne_eq_false_iff_eq.mpr c27
            clear c27
            simp only [Option.some.injEq, Prod.mk.injEq] at H
            obtain ⟨rfl, rfl, rfl⟩ := H
            go_wp2
            go_ret3
            exact ⟨eW, bB⟩
           ·
            rw [if_neg c27] at H
            have c27b0 : (a0 == 1) = false := beq_eq_false_iff_ne.mpr c27
            have c27b1 : (a0 != 1) = true := bne_iff_ne.mpr c27
            by_cases c28 : a0 = 3
            ·
             rw [if_pos c28] at H
             have c28b0 : (a0 == 3) = true := beq_iff_eq.mpr c28
             have c28b1 : (a0 != 3) = false := bne_eq_false_iff_eq.mpr c28
             clear c28;replace H := Option.bind_eq_some_iff.mp H
             obtain ⟨t1004, A290, H⟩ := H
             replace H : ((xbB.f kj16 a2).bind fun t1005 => (some (wrap64 ((wrap64 (366 * (wrap64 ((wrap64 (a3 - a2)) - (wrap64 (t1004 - t1005)))))) + (wrap64 (365 * (wrap64 (t1004 - t1005))))), 133590, x10_8))) = some (r1, r2, r3) := H
             have A29 := am A290;clear A290;replace H := Option.bind_eq_some_iff.mp H
             obtain ⟨t1005, A300, H⟩ := H
             replace H : (some (wrap64 ((wrap64 (366 * (wrap64 ((wrap64 (a3 - a2)) - (wrap64 (t1004 - t1005)))))) + (wrap64 (365 * (wrap64 (t1004 - t1005))))), 133590, x10_8)) = some (r1, r2, r3) := H
             have A30 := am A300;clear A300
             simp only [Option.some.injEq, Prod.mk.injEq] at H
             obtain ⟨rfl, rfl, rfl⟩ := H
             go_wp2_with (first | ((with_reducible refine gG 180 ?_); refine goA (some 71) Tryz.func180 #[.int .i64 a3] ?_; (with_reducible refine (xbB.calls kj16 a3 t1004 _ A29.out).mono ?_); rintro e w' ⟨rfl, ⟨nd, rfl⟩⟩; refine ⟨_, rfl, ?_⟩) | ((with_reducible refine gG 180 ?_); refine goA (some 73) Tryz.func180 #[.int .i64 a2] ?_; (with_reducible refine (xbB.calls kj16 a2 t1005 _ A30.out).mono ?_); rintro e w' ⟨rfl, ⟨nd, rfl⟩⟩; refine ⟨_, rfl, ?_⟩))
             go_ret3
             exact ⟨eW, bB⟩
            ·
             rw [if_neg c28] at H
             have c28b0 : (a0 == 3) = false := beq_eq_false_iff_ne.mpr c28
             have c28b1 : (a0 != 3) = true := bne_iff_ne.mpr c28
             by_cases c31 : a0 = 5
             ·
              rw [if_pos c31] at H
              have c31b0 : (a0 == 5) = true := beq_iff_eq.mpr c31
              have c31b1 : (a0 != 5) = false := bne_eq_false_iff_eq.mpr c31
              clear c31;replace H := Option.bind_eq_some_iff.mp H
              obtain ⟨t1000, A320, H⟩ := H
              replace H : (some (t1000, 360, x10_8)) = some (r1, r2, r3) := H
              have A32 := am A320;clear A320
              simp only [Option.some.injEq, Prod.mk.injEq] at H
              obtain ⟨rfl, rfl, rfl⟩ := H
              go_wp2_with (first | ((with_reducible refine gG 181 ?_); refine goA (some 86) Tryz.func181 #[.int .i64 a2, .int .i64 a3, .bool true] ?_; (with_reducible refine (xbW.calls kj16 a2 a3 true t1000 _ A32.out).mono ?_); rintro e w33 ⟨rfl, hb⟩; refine ⟨_, rfl, ?_⟩; replace BK992 := bK BK992 hb; replace HB := bS hb; (try clear hb); (try clear hb2); (try clear hk); (try clear hi)))
              go_ret3
              exact ⟨eW, bB⟩
             ·
              rw [if_neg c31] at H
              have c31b0 : (a0 == 5) = false := beq_eq_false_iff_ne.mpr c31
              have c31b1 : (a0 != 5) = true := bne_iff_ne.mpr c31
              by_cases c34 : a0 = 4
              ·
               rw [if_pos c34] at H
               have c34b0 : (a0 == 4) = true := beq_iff_eq.mpr c34
               have c34b1 : (a0 != 4) = false := bne_eq_false_iff_eq.mpr c34
               clear c34;replace H := Option.bind_eq_some_iff.mp H
               obtain ⟨t1001, A350, H⟩ := H
               replace H : (some (t1001, 360, x10_8)) = some (r1, r2, r3) := H
               have A35 := am A350;clear A350
               simp only [Option.some.injEq, Prod.mk.injEq] at H
               obtain ⟨rfl, rfl, rfl⟩ := H
               go_wp2_with (first | ((with_reducible refine gG 181 ?_); refine goA (some 89) Tryz.func181 #[.int .i64 a2, .int .i64 a3, .bool false] ?_; (with_reducible refine (xbW.calls kj16 a2 a3 false t1001 _ A35.out).mono ?_); rintro e w36 ⟨rfl, hb⟩; refine ⟨_, rfl, ?_⟩; replace BK992 := bK BK992 hb; replace HB := bS hb; (try clear hb); (try clear hb2); (try clear hk); (try clear hi)))
               go_ret3
               exact ⟨eW, bB⟩
              ·
               rw [if_neg c34] at H
               have c34b0 : (a0 == 4) = false := beq_eq_false_iff_ne.mpr c34
               have c34b1 : (a0 != 4) = true := bne_iff_ne.mpr c34
               by_cases c37 : a0 = 6
               ·
                rw [if_pos c37] at H
                have c37b0 : (a0 == 6) = true := beq_iff_eq.mpr c37
                have c37b1 : (a0 != 6) = false := bne_eq_false_iff_eq.mpr c37
                clear c37;replace H := Option.bind_eq_some_iff.mp H
                obtain ⟨⟨t1002, t1003⟩, A380, H⟩ := H
                replace H : (some (t1002, 252, t1003)) = some (r1, r2, r3) := H
                have A38 := am A380;clear A380
                simp only [Option.some.injEq, Prod.mk.injEq] at H
                obtain ⟨rfl, rfl, rfl⟩ := H
                obtain ⟨_,_,_,_⟩ := blk2 BK992
                go_wp2_with (first | ((with_reducible refine gG 182 ?_); refine goA (some 94) Tryz.func182 #[.agg #[.int .i64 a1_0, .slice A1_1 l1_1.length c1_1], .int .i64 a2, .int .i64 a3] ?_; (with_reducible refine (xeQ.calls a1_0 _ _ l1_1 a2 a3 t1002 t1003 _ ?side1 ?side2 A38.out).mono ?_); (case side1 => exact sC HR1_1); (case side2 => exact HC1_1.out); rintro e w40 ⟨rfl, hb⟩; refine ⟨_, rfl, ?_⟩; replace BK992 := bK BK992 hb; replace HB := bS hb; (try clear hb); (try clear hb2); (try clear hk); (try clear hi)))
                go_ret3
                exact ⟨eW, bB⟩
               ·
                rw [if_neg c37] at H
                have c37b0 : (a0 == 6) = false := beq_eq_false_iff_ne.mpr c37
                have c37b1 : (a0 != 6) = true := bne_iff_ne.mpr c37
                simp only [Option.some.injEq, Prod.mk.injEq] at H
                obtain ⟨rfl, rfl, rfl⟩ := H
                go_wp2
                go_ret3
                exact ⟨eW, bB⟩
end Go.Proofs.YtkabcgmegljebaaGreatDoor.Q
namespace Go.Proofs.YtkabcgmegljebaaGreatDoor.N
open Go.RowKit Go.Proofs.YtkabcgmegljebaaGreatDoorW.PrintWords Go.Proofs.YtkabcgmegljebaaGreatDoorW.PrintLast Go.Proofs.YtkabcgmegljebaaGreatDoorW.PrintMore
open Go.Proofs.YtkabcgmegljebaaGreatDoor.Q
open Go.Proofs.YtkabcgmegljebaaGreatDoor.L (w64 td tm tm0)
theorem xfG {α : Type} {p : Prop} [Decidable p] {g h : Nat → Option α} {r : α} (h1 : p → Ev g r) (h2 : ¬ p → Ev h r) : Ev (fun q => if p then g q else h q) r := by
 by_cases hp : p
 ·
  exact Ev.congr (fun q => if_pos hp) (h1 hp)
 ·
  exact Ev.congr (fun q => if_neg hp) (h2 hp)
def lsum : Nat → Int
  | 0 => 0
  | f + 1 => lsum f + (if M.leap (1900 + (f : Int)) = true then 366 else 0)
theorem xhE : ∀ f, 0 ≤ lsum f ∧ lsum f ≤ 366 * f
  | 0 => by unfold lsum; omega
  | f + 1 => by have := xhE f; unfold lsum; split <;> (push_cast; omega)
def ly (y n : Int) : Int := lsum (y - 1900).toNat + (if M.leap y = true then n - M.before y else 0)
def leaps (n : Int) : Int := ly (M.civY n) n
theorem ly_end {y : Int} (h : 1900 ≤ y) : ly (y + 1) (M.before (y + 1)) = ly y (M.before (y + 1)) := by
 unfold ly
 rw [show (y + 1 - 1900).toNat = (y - 1900).toNat + 1 by omega, lsum, show 1900 + ((y - 1900).toNat : Int) = y by omega]
 have hb := M.xcF y
 have e : M.before (y + 1) - M.before (y + 1) = 0 := by omega
 rw [e]
 have e2 : (if M.leap (y + 1) = true then (0 : Int) else 0) = 0 := by split <;> rfl
 rw [e2]
 cases hl : M.leap y with
 | true => unfold M.lp at hb; rw [hl, if_pos rfl] at hb; rw [if_pos rfl, if_pos rfl]; omega
 | false => rw [if_neg (by decide), if_neg (by decide)]; omega
theorem xgS {n : Int} (h : 0 ≤ n ∧ n ≤ 109572) : 1900 ≤ M.civY n ∧ M.civY n ≤ 2199 ∧ M.before (M.civY n) ≤ n ∧ n < M.before (M.civY n + 1) := M.xdF n h.1 h.2
theorem leaps_y {y n : Int} (hy : 1900 ≤ y) (hn : 0 ≤ n ∧ n ≤ 109572) (h1 : M.before y ≤ n) (h2 : n ≤ M.before (y + 1)) : leaps n = ly y n := by
 obtain ⟨c1, c2, c3, c4⟩ := xgS hn
 unfold leaps
 by_cases he : n = M.before (y + 1)
 ·
  have hy2 : M.before (y + 1) < M.before (y + 1 + 1) := by have := M.xcF (y + 1); have := M.lp_01 (y + 1); omega
  have : M.civY n = y + 1 := M.xhH c3 c4 (by omega) (by omega)
  rw [this, he, ly_end hy]
 ·
  have : M.civY n = y := M.xhH c3 c4 h1 (by omega)
  rw [this]
theorem ly_rng {y n : Int} (hy : 1900 ≤ y ∧ y ≤ 2200) (h1 : M.before y ≤ n) (h2 : n ≤ M.before (y + 1)) : 0 ≤ ly y n ∧ ly y n ≤ 200000 := by
 have := xhE (y - 1900).toNat
 have hb := M.xcF y
 have := M.lp_01 y
 unfold ly; split <;> omega
def act (n : Int) : Int := 366 * n - leaps n
def thirty (e : Bool) (a b : Int) : Int :=
 if e = true then wrap64 (wrap64 (wrap64 (wrap64 (360 * wrap64 (M.civY b - M.civY a)) + wrap64 (30 * wrap64 (M.civM b - M.civM a))) + mn (M.civD b) 30) - mn (M.civD a) 30)
 else if mn (M.civD a) 30 = 30 then wrap64 (wrap64 (wrap64 (wrap64 (360 * wrap64 (M.civY b - M.civY a)) + wrap64 (30 * wrap64 (M.civM b - M.civM a))) + mn (M.civD b) 30) - mn (M.civD a) 30)
 else wrap64 (wrap64 (wrap64 (wrap64 (360 * wrap64 (M.civY b - M.civY a)) + wrap64 (30 * wrap64 (M.civM b - M.civM a))) + M.civD b) - mn (M.civD a) 30)
def up (kind a b : Int) : Int × Int × Int :=
  if kind = 1 then (b - a, 360, 0) else if kind = 2 then (b - a, 365, 0) else if kind = 3 then (act b - act a, 133590, 0)
  else if kind = 4 then (thirty false a b, 360, 0) else (thirty true a b, 360, 0)
def frac (kind a b : Int) : Int × Int × Int :=
  if ¬ ((0 ≤ a ∧ a ≤ 109572) ∧ (0 ≤ b ∧ b ≤ 109572)) then (0, 0, 51)
  else if b < a then (wrap64 (-(up kind b a).1), (up kind b a).2.1, (up kind b a).2.2) else up kind a b
theorem cis (n : Int) : xdR.f n = some (decide (0 ≤ n ∧ n ≤ 109572)) := by
 unfold xdR.f
 by_cases h : n ≥ 0
 ·
  rw [if_pos h]; simp [h]
 ·
  rw [if_neg h]; simp; omega
theorem leaps_l0 (n : Int) (hn : 0 ≤ n ∧ n ≤ 109572) : ∀ (f : Nat) (i : Nat), 1900 + (i : Int) + f = M.civY n → Ev (fun k => xbB.l0 k n (M.civY n) (lsum i) (1900 + (i : Int))) (leaps n)
 | 0, i, hf => by
  obtain ⟨c1, c2, c3, c4⟩ := xgS hn
  refine Ev.step (fun k => by rw [xbB.l0, if_neg (by omega), L.leap, Option.bind_some]) ?_
  have hi : i = (M.civY n - 1900).toNat := by omega
  unfold leaps ly
  refine xfG (fun hl => ?_) (fun hl => ?_)
  ·
   rw [if_pos hl]
   have hd : M.xdQ (M.civY n) 1 1 := by have := M.xdE (M.civY n) 1; unfold M.xdQ; omega
   have ho := L.Of (M.civY n) 1 1
   rw [if_pos hd] at ho
   refine Ev.bind ho (Ev.congr (f := fun _ => some (lsum (M.civY n - 1900).toNat + (n - M.before (M.civY n)))) (fun k => ?_) (Ev.now _))
   have hdo : M.dayOf (M.civY n) 1 1 = M.before (M.civY n) := by unfold M.dayOf; rw [M.cum_1]; omega
   have hr := xhE i;have hb := M.day_rng hd
   rw [hdo] at hb
   simp only [hdo]
   rw [w64 (x := n - M.before (M.civY n)) (by omega) (by omega), w64 (by omega) (by omega), hi]
  ·
   rw [if_neg hl, hi, Int.add_zero]
   exact Ev.now _
 | f + 1, i, hf => by
  obtain ⟨c1, c2, c3, c4⟩ := xgS hn
  have hr := xhE i
  have hw1 : wrap64 (lsum i + 366) = lsum i + 366 := w64 (by omega) (by omega)
  have hw2 : wrap64 (1900 + (i : Int) + 1) = 1900 + ((i + 1 : Nat) : Int) := by rw [w64 (by omega) (by omega)]; push_cast; omega
  have hrec := leaps_l0 n hn f (i + 1) (by push_cast; omega)
  refine Ev.step (fun k => by rw [xbB.l0, if_pos (by omega), L.leap, Option.bind_some, hw1, hw2]) ?_
  rw [lsum] at hrec
  refine xfG (fun hl => ?_) (fun hl => ?_)
  ·
   rw [if_pos hl] at hrec; exact hrec
  ·
   rw [if_neg hl, Int.add_zero] at hrec; exact hrec
theorem cleaps (n : Int) (hn : 0 ≤ n ∧ n ≤ 109572) : Ev (fun k => xbB.f k n) (leaps n) := by
 obtain ⟨c1, c2, c3, c4⟩ := xgS hn
 have hc := L.Civil n
 rw [if_pos hn] at hc
 refine Ev.congr (fun k => by unfold xbB.f; rfl) (Ev.bind hc ?_)
 have := leaps_l0 n hn (M.civY n - 1900).toNat 0 (by push_cast; omega)
 exact this
theorem cthirty (e : Bool) (a b : Int) (ha : 0 ≤ a ∧ a ≤ 109572) (hb : 0 ≤ b ∧ b ≤ 109572) : Ev (fun k => xbW.f k a b e) (thirty e a b) := by
 have hc := L.Civil a
 rw [if_pos ha] at hc
 have hd := L.Civil b
 rw [if_pos hb] at hd
 refine Ev.congr (fun k => by unfold xbW.f; rfl) (Ev.bind hc (Ev.bind hd ?_))
 unfold thirty
 refine xfG (fun h => ?_) (fun h => xfG (fun h2 => ?_) (fun h2 => ?_))
 ·
  rw [if_pos h]; exact Ev.now _
 ·
  rw [if_neg h, if_pos h2]; exact Ev.now _
 ·
  rw [if_neg h, if_neg h2]; exact Ev.now _
theorem xfF {n : Int} (hn : 0 ≤ n ∧ n ≤ 109572) : 0 ≤ leaps n ∧ leaps n ≤ 200000 := by
  obtain ⟨c1, c2, c3, c4⟩ := xgS hn
  exact ly_rng ⟨c1, by omega⟩ c3 (by omega)
theorem cj2 (kind we : Int) (l : List S214) (a b : Int) (hk : 1 ≤ kind ∧ kind ≤ 5) (ha : 0 ≤ a ∧ a ≤ 109572) (hb : 0 ≤ b ∧ b ≤ 109572) (h : ¬ b < a) : Ev (fun k => xaL.j2 k kind a b 0 0 false we l) (up kind a b) := by
 refine Ev.step (fun k => by rw [xaL.j2, if_neg (by decide), if_neg h]) ?_
 have hw1 : wrap64 (b - a) = b - a := w64 (by omega) (by omega)
 unfold up
 refine xfG (fun k2 => ?_) (fun k2 => xfG (fun k1 => ?_) (fun k1 => xfG (fun k3 => ?_) (fun k3 => xfG (fun k5 => ?_) (fun k5 => xfG (fun k4 => ?_) (fun k4 => absurd hk (by omega))))))
 ·
  rw [if_neg (show ¬ kind = 1 by omega), if_pos k2, hw1]; exact Ev.now _
 ·
  rw [if_pos k1, hw1]; exact Ev.now _
 ·
  rw [if_neg k1, if_neg k2, if_pos k3]
  refine Ev.bind (cleaps b hb) (Ev.bind (cleaps a ha) (Ev.congr (f := fun _ => some (act b - act a, 133590, 0)) (fun k => ?_) (Ev.now _)))
  have r1 := xfF ha;have r2 := xfF hb
  rw [hw1, w64 (x := leaps b - leaps a) (by omega) (by omega), w64 (x := b - a - (leaps b - leaps a)) (by omega) (by omega), w64 (x := 366 * (b - a - (leaps b - leaps a))) (by omega) (by omega), w64 (x := 365 * (leaps b - leaps a)) (by omega) (by omega), w64 (by omega) (by omega)]
  unfold act
  congr 2
  omega
 ·
  rw [if_neg k1, if_neg k2, if_neg k3, if_neg (show ¬ kind = 4 by omega)]
  exact Ev.bind (cthirty true a b ha hb) (Ev.now _)
 ·
  rw [if_neg k1, if_neg k2, if_neg k3, if_pos k4]
  exact Ev.bind (cthirty false a b ha hb) (Ev.now _)
theorem cUp (kind we : Int) (l : List S214) (a b : Int) (hk : 1 ≤ kind ∧ kind ≤ 5) (ha : 0 ≤ a ∧ a ≤ 109572) (hb : 0 ≤ b ∧ b ≤ 109572) (R : Int × Int × Int) (h : Ev (fun k => xaL.j2 k kind a b 0 0 false we l) R) : Ev (fun k => xaL.f k kind we l a b) R := by
 have hj1 : Ev (fun k => xaL.j1 k kind a b 0 0 we l) R :=
  Ev.step (fun k => by rw [xaL.j1, cis, Option.bind_some, decide_eq_true ha, if_pos rfl, cis, Option.bind_some, decide_eq_true hb]; rfl) h
 refine Ev.step (fun k => by rw [xaL.f, if_neg (by omega), decide_eq_false (by omega)]) ?_
 refine Ev.step (fun k => by rw [xaL.j0, if_neg (by decide)]) ?_
 exact xfG (fun k6 => absurd k6 (by omega)) (fun _ => hj1)
theorem cFrac (kind we : Int) (l : List S214) (a b : Int) (hk : 1 ≤ kind ∧ kind ≤ 5) : Ev (fun k => xaL.f k kind we l a b) (frac kind a b) := by
 unfold frac
 by_cases hd : (0 ≤ a ∧ a ≤ 109572) ∧ (0 ≤ b ∧ b ≤ 109572)
 ·
  rw [if_neg (fun h => h hd)]
  by_cases hlt : b < a
  ·
   rw [if_pos hlt]
   refine cUp kind we l a b hk hd.1 hd.2 _ (Ev.step (fun k => by rw [xaL.j2, if_neg (by decide), if_pos hlt]) ?_)
   exact Ev.bind (cUp kind we l b a hk hd.2 hd.1 _ (cj2 kind we l b a hk hd.2 hd.1 (by omega))) (Ev.now _)
  ·
   rw [if_neg hlt]
   exact cUp kind we l a b hk hd.1 hd.2 _ (cj2 kind we l a b hk hd.1 hd.2 hlt)
 ·
  rw [if_pos hd]
  have hj2 : Ev (fun k => xaL.j2 k kind a b 0 0 true we l) ((0, 0, 51) : Int × Int × Int) := Ev.step (fun k => by rw [xaL.j2, if_pos rfl]) (Ev.now _)
  have hj1 : Ev (fun k => xaL.j1 k kind a b 0 0 we l) ((0, 0, 51) : Int × Int × Int) := by
   by_cases ha : 0 ≤ a ∧ a ≤ 109572
   ·
    have hb : ¬ (0 ≤ b ∧ b ≤ 109572) := fun h => hd ⟨ha, h⟩
    exact Ev.step (fun k => by rw [xaL.j1, cis, Option.bind_some, decide_eq_true ha, if_pos rfl, cis, Option.bind_some, decide_eq_false hb]; rfl) hj2
   ·
    exact Ev.step (fun k => by rw [xaL.j1, cis, Option.bind_some, decide_eq_false ha, if_neg (by decide)]) hj2
  refine Ev.step (fun k => by rw [xaL.f, if_neg (by omega), decide_eq_false (by omega)]) ?_
  refine Ev.step (fun k => by rw [xaL.j0, if_neg (by decide)]) ?_
  exact xfG (fun k6 => absurd k6 (by omega)) (fun _ => hj1)
end Go.Proofs.YtkabcgmegljebaaGreatDoor.N
