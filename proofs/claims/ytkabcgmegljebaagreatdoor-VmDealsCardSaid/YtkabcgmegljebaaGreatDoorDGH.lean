/- Contracts and facts of functions of the program, joined in one text. -/
import Derived.Test.YtkabcgmegljebaaGreatDoorRows
import Derived.Test.YtkabcgmegljebaaGreatDoorDGG
import Derived.Lib.LaidU8
import Derived.Lib.SmallJoins
import Derived.Deep.Slices
import Derived.Deep.Fields
import Derived.ChangeSame
import Derived.ProofKit
import Derived.OpenShut
import Derived.ChangeOld
import Derived.SizedLaws
import Derived.Stop.LaidErr
import Derived.Test.YtkabcgmegljebaaGreatDoorDGA
import Derived.Carry
import Derived.Test.YtkabcgmegljebaaGreatDoorDGC
set_option maxHeartbeats 8000000
set_option maxRecDepth 100000
set_option linter.unusedVariables false
set_option linter.unusedSimpArgs false
namespace Go.Proofs.YtkabcgmegljebaaGreatDoor.O
open Go.ChangeShapes Go.WideShapes Go.ChangeAt Go.RowKit Go.Deep Go.Joins
open Go.Proofs.YtkabcgmegljebaaGreatDoorW.PrintWords
open Go.Proofs.YtkabcgmegljebaaGreatDoor.Q
theorem cells3 : Tryz.prog.cellsOf 3 = 1 := by kernel_rfl
theorem lt_cell {w : World} {p : Addr} {v : Value} (h : w.cell? p = some v) : p.block < w.heap.size := by
 rcases Nat.lt_or_ge p.block w.heap.size with h1 | h1
 ·
  exact h1
 ·
  rw [World.cell?] at h
  simp [Array.getElem?_eq_none h1] at h
theorem kt_of_laid {W : World} (h : laidMet Tryz.prog [("tenor/code.kinds", Rows.laid_tenor_code_kinds)] W) : H.KT W := by
 obtain ⟨g, t, cs, fuel, p, hg, hty, hvar, hd⟩ := Lib.laidMet.reads h (n := "tenor/code.kinds") (d := Rows.laid_tenor_code_kinds) (List.mem_singleton.2 rfl)
 obtain rfl : g = 0 := Option.some.inj (hg.symm.trans (by kernel_rfl))
 obtain rfl : t = 49 := Option.some.inj (hty.symm.trans (by kernel_rfl))
 rcases DataW.trod_slice Tryz.underlying49 hd with ⟨_, hx⟩ | ⟨a, len, cap, el, rs, m, rfl, hcs, hx, _, hlc, _, hel, helem, _, _⟩
 ·
  cases hx
 have e0 := congrArg Prod.fst hx
 simp only [Rows.laid_tenor_code_kinds, DataW.slice.injEq] at e0
 obtain ⟨eE, _⟩ := e0
 have hlen : len = 8 := by
  have := congrArg List.length eE
  simp at this
  omega
 subst hlen
 have hcell : ∀ i, i < 8 → W.cell? (a.add i) = some (.int .i64 (H.rdI H.kindsL (i : Int))) := by
  intro i hi
  have h1 := helem i hi
  rw [cells3, Nat.mul_one] at h1
  have h2 : el[i]? = some (el[i]'(by omega)) := List.getElem?_eq_getElem _
  rw [h2] at h1
  obtain ⟨cs', hc, ht⟩ := Option.bind_eq_some_iff.1 h1
  obtain ⟨n, rfl, hxx, _⟩ := DataW.trod_int Tryz.underlying3 ht
  obtain ⟨_, _, hat⟩ := World.cells?_some hc
  have h3 := hat 0 (by decide)
  rw [Go.Deep.add_add, Nat.add_zero] at h3
  rw [h3]
  have h4 : (el.map (·.1))[i]? = some (.lit (.int .i64 n)) := by rw [List.getElem?_map, h2, hxx]; rfl
  rw [← eE] at h4
  have h5 : ([.lit (.int .i64 0), .lit (.int .i64 0), .lit (.int .i64 2), .lit (.int .i64 3), .lit (.int .i64 4), .lit (.int .i64 6), .lit (.int .i64 7), .lit (.int .i64 8)] : List (DataW Unit))[i]? = some (.lit (.int .i64 (H.rdI H.kindsL (i : Int)))) := by
   match i, hi with
   | 0, _ | 1, _ | 2, _ | 3, _ | 4, _ | 5, _ | 6, _ | 7, _ => rfl
  rw [h5] at h4
  injection h4 with h4; injection h4 with h4; injection h4 with _ h4
  rw [h4]; rfl
 refine ⟨a, cap, ?_, ?_, hcell⟩
 ·
  have h1 := World.var?_cell hg hvar 0
  rw [h1, ← Array.getElem?_toList, hcs]; rfl
 ·
  have h0 := hcell 0 (by decide)
  have h1 := lt_cell h0
  rwa [H.add_block] at h1
variable {K : Type} {enc : TypeId × Value → K} {W : World}
theorem trodF {base : Nat} {sp : Nat → Bool} {held : Bool} {fuel : Nat} {t : TypeId} {k : FloatKind} {cs : List Value} {x : DataW K × List MemPlace} (ht : Tryz.prog.underlying t = some (.float k)) (h : DataW.trod enc Tryz.prog W base sp held fuel t cs = some x) : ∃ n, cs = [.float k n] ∧ (Lit.float k n).wf = true := by
 cases fuel with
 | zero => simp [DataW.trod] at h
 | succ n =>
  unfold DataW.trod at h
  rw [ht] at h
  split at h <;> simp_all
theorem arg_cells {r : Reach} {b0 : Nat} {t e : TypeId} {v : Value} (ht : Tryz.prog.underlying t = some (.slice e)) (hv : Value.okWide Tryz.prog W r b0 t v) : v.cells.toList = [v] := by
  simp only [Value.okWide, ht, Cell.okWide] at hv
  cases v <;> simp_all [Cell.ok, Value.cells]
end Go.Proofs.YtkabcgmegljebaaGreatDoor.O
namespace Go.Proofs.YtkabcgmegljebaaGreatDoor.H
open Go.RowKit Go.Proofs.YtkabcgmegljebaaGreatDoorW.PrintWords Go.Proofs.YtkabcgmegljebaaGreatDoorW.PrintLast Go.Proofs.YtkabcgmegljebaaGreatDoorW.PrintMore
open Go.Proofs.YtkabcgmegljebaaGreatDoor.Q
theorem calWithin0 (w : World) : Calls Tryz.prog 190 #[.int .i64 0, .int .i64 0, .int .i64 126] w fun e w' => e = .returned (.bool true) ∧ w' = w := by
 go_enter Tryz.func190, Tryz.ntmps190
 go_wp2
 go_ret
 exact ⟨rfl, rfl⟩
theorem calCheck0 (A : Option Addr) (c : Nat) (w : World) : Calls Tryz.prog 178 #[.agg #[.int .i64 0, .slice A 0 c]] w fun e w' => e = .returned (.tuple #[.int .i64 0, .int .i64 0]) ∧ Below w.heap.size w w' := by
 go_enter Tryz.func178, Tryz.ntmps178
 go_wp2_with (go_at_call 190; (with_reducible refine (calWithin0 _).mono ?_); rintro e w' ⟨rfl, hw_⟩; obtain rfl := hw_.symm)
 go_loopg [18] 1 (fun kq v18 w' => v18 = .int .i64 0 ∧ Below w.heap.size w w')
 case atStart => exact ⟨rfl, xaC (Below.refl _ _) _⟩
 case round =>
  obtain ⟨rfl, hb⟩ := hrel
  have HB := Aside0.mk hb;clear hb
  go_wp2_with fail
  go_ret2
  exact ⟨rfl, HB.out⟩
theorem calBegin0 (A : Option Addr) (c : Nat) (w : World) : Calls Tryz.prog 174 #[.agg #[.int .i64 0, .slice A 0 c]] w fun e w' => ∃ v, e = .returned (.tuple #[v, .int .i64 0]) ∧ Below w.heap.size w w' := by
 have hmm := @run_makeMap Tryz.prog
 have B1 := Aside0.mk (xbB w (.cells #[.int .i64 0, .slice A 0 c] 115))
 have HB1 := Aside0.mk (xaC (Below.refl w.heap.size w) (.cells #[.int .i64 0, .slice A 0 c] 115))
 obtain ⟨c0, c1, z0, z1⟩ := blk2 B1
 go_enter Tryz.func174, Tryz.ntmps174
 go_wp2_with (go_at_call 178; (with_reducible refine (calCheck0 _ _ _).mono ?_); rintro e w1 ⟨rfl, hb⟩; have HB2 := Aside0.mk (HB1.out.trans (hb.mono HB1.out.size)); have B2 := Aside0.mk (xaK B1.out hb); clear hb c0 c1 z0 z1; obtain ⟨c0, c1, z0, z1⟩ := blk2 B2)
 go_ret2
 exact ⟨_, rfl, xaC (xaC (xaC HB2.out _) _) _⟩
theorem calIs (n : Int) (w : World) (b : Bool) (hb : decide (0 ≤ n ∧ n ≤ 109572) = b) : Calls Tryz.prog 175 #[.int .i64 n] w fun e w' => e = .returned (.bool b) ∧ w' = w := by
 have hw : ∀ (w : World), Calls Tryz.prog 190 #[.int .i64 n, .int .i64 0, .int .i64 109572] w fun e w' => e = .returned (.bool b) ∧ w' = w := fun w => by
  by_cases h1 : 0 ≤ n
  ·
   have t1 : decide (n ≥ 0) = true := decide_eq_true h1
   have t2 : decide (n ≤ 109572) = b := by rw [← hb, decide_eq_decide]; omega
   clear hb
   go_enter Tryz.func190, Tryz.ntmps190
   go_wp2
   go_ret
   exact ⟨rfl, rfl⟩
  ·
   have t1 : decide (n ≥ 0) = false := decide_eq_false h1
   have hb2 : b = false := by rw [← hb]; exact decide_eq_false (fun h => h1 h.1)
   subst hb2;clear hb
   go_enter Tryz.func190, Tryz.ntmps190
   go_wp2
   go_ret
   exact ⟨rfl, rfl⟩
 have HW := Aside0.mk hw;clear hw hb
 go_enter Tryz.func175, Tryz.ntmps175
 go_wp2_with (go_at_call 190; (with_reducible refine (HW.out _).mono ?_); rintro e w' ⟨rfl, hw_⟩; obtain rfl := hw_.symm)
 go_ret
 exact ⟨rfl, rfl⟩
def adj0 (n : Int) : Int × Int := if 0 ≤ n ∧ n ≤ 109572 then (n, 0) else (0, 51)
theorem calAdjust0 (A : Option Addr) (c : Nat) (n : Int) (w : World) : Calls Tryz.prog 163 #[.agg #[.int .i64 0, .slice A 0 c], .int .i64 n, .int .i64 0] w fun e w' => e = .returned (.tuple #[.int .i64 (adj0 n).1, .int .i64 (adj0 n).2]) ∧ Below w.heap.size w w' := by
 have B1 := Aside0.mk (xbB w (.cells #[.int .i64 0, .slice A 0 c] 115))
 have HB1 := Aside0.mk (xaC (Below.refl w.heap.size w) (.cells #[.int .i64 0, .slice A 0 c] 115))
 obtain ⟨c0, c1, z0, z1⟩ := blk2 B1
 by_cases h : 0 ≤ n ∧ n ≤ 109572
 ·
  have hi := fun w => calIs n w true (decide_eq_true h)
  have e1 : adj0 n = (n, 0) := by unfold adj0; rw [if_pos h]
  rw [e1]
  have HI := Aside0.mk hi;clear hi h e1
  go_enter Tryz.func163, Tryz.ntmps163
  go_wp2_with (first | (go_at_call 174; (with_reducible refine (calBegin0 _ _ _).mono ?_); rintro e w1 ⟨v, rfl, hb⟩; have HB2 := Aside0.mk (HB1.out.trans (hb.mono HB1.out.size)); clear hb) | (go_at_call 175; (with_reducible refine (HI.out _).mono ?_); rintro e w' ⟨rfl, hw_⟩; obtain rfl := hw_.symm))
  go_ret2
  exact ⟨rfl, HB2.out⟩
 ·
  have hi := fun w => calIs n w false (decide_eq_false h)
  have e1 : adj0 n = (0, 51) := by unfold adj0; rw [if_neg h]
  rw [e1]
  have HI := Aside0.mk hi;clear hi h e1
  go_enter Tryz.func163, Tryz.ntmps163
  go_wp2_with (first | (go_at_call 174; (with_reducible refine (calBegin0 _ _ _).mono ?_); rintro e w1 ⟨v, rfl, hb⟩; have HB2 := Aside0.mk (HB1.out.trans (hb.mono HB1.out.size)); clear hb) | (go_at_call 175; (with_reducible refine (HI.out _).mono ?_); rintro e w' ⟨rfl, hw_⟩; obtain rfl := hw_.symm))
  go_ret2
  exact ⟨rfl, HB2.out⟩
end Go.Proofs.YtkabcgmegljebaaGreatDoor.H
namespace Go.Proofs.YtkabcgmegljebaaGreatDoor.Q
open Go.RowKit Go.Proofs.YtkabcgmegljebaaGreatDoorW.PrintWords Go.Proofs.YtkabcgmegljebaaGreatDoorW.PrintLast Go.Proofs.YtkabcgmegljebaaGreatDoorW.PrintMore
attribute [local go_sem] xcP xcM xcY xcX xcF xcE xcN xcL
def xcR.f (a0_0 : Int) (l0_1 : List S214)  : Option (Int × Int) := if a0_0 = 0 ∧ l0_1.length = 0 then some (0, 0) else none
theorem xcR.calls (a0_0 : Int) (A0_1 : Option Addr) (c0_1 : Nat) (l0_1 : List (S214)) (r1 r2 : Int) (w : World) (hr0_1 : Kd.C k214 w A0_1 l0_1.length l0_1) (hc0_1 : l0_1.length ≤ c0_1) (h : xcR.f a0_0 l0_1  = some (r1, r2)) :
  Calls Tryz.prog 178 #[.agg #[.int .i64 a0_0, .slice A0_1 l0_1.length c0_1]] w fun e w' => e = .returned (.tuple #[.int .i64 r1, .int .i64 r2]) ∧ Below w.heap.size w w' := by
 unfold xcR.f at h
 split at h
 ·
  rename_i hc
  obtain ⟨rfl, hl⟩ := hc
  rw [hl]
  injection h with h; injection h with h1 h2; subst h1 h2
  exact Go.Proofs.YtkabcgmegljebaaGreatDoor.H.calCheck0 _ _ _
 ·
  cases h
def xcD.f (a0 : Int) : Option (Bool) := if a0 ≥ 0 then (some (decide (a0 ≤ 109572))) else (some false)
theorem xcD.calls (a0 : Int) (r : Bool) (w : World) (h : xcD.f a0 = some r) :
  Calls Tryz.prog 184 #[.int .i64 a0] w fun e w' => e = .returned (.bool r) ∧ Drawn0 w w' := by
 have H : (if a0 ≥ 0 then (some (decide (a0 ≤ 109572))) else (some false)) = some r := h
 clear h
 by_cases c2 : a0 ≥ 0
 ·
  rw [if_pos c2] at H
  have c2b0 : decide (0 ≤ a0) = true := decide_eq_true c2
  clear c2
  obtain rfl := Option.some.inj H
  go_enter Tryz.func184, Tryz.ntmps184
  go_wp2
  go_ret
  exact ⟨eS, eD⟩
 ·
  rw [if_neg c2] at H
  have c2b0 : decide (0 ≤ a0) = false := decide_eq_false c2
  clear c2
  obtain rfl := Option.some.inj H
  go_enter Tryz.func184, Tryz.ntmps184
  go_wp2
  go_ret
  exact ⟨eS, eD⟩
def xaQ.f (a0 a1 a2 : Int) : Option (Bool) := if a0 ≥ a1 then (some (decide (a0 ≤ a2))) else (some false)
theorem xaQ.calls (a0 a1 a2 : Int) (r : Bool) (w : World) (h : xaQ.f a0 a1 a2 = some r) :
  Calls Tryz.prog 185 #[.int .i64 a0, .int .i64 a1, .int .i64 a2] w fun e w' => e = .returned (.bool r) ∧ Drawn0 w w' := by
 have H : (if a0 ≥ a1 then (some (decide (a0 ≤ a2))) else (some false)) = some r := h
 clear h
 by_cases c4 : a0 ≥ a1
 ·
  rw [if_pos c4] at H
  have c4b0 : decide (a1 ≤ a0) = true := decide_eq_true c4
  clear c4
  obtain rfl := Option.some.inj H
  go_enter Tryz.func185, Tryz.ntmps185
  go_wp2
  go_ret
  exact ⟨eS, eD⟩
 ·
  rw [if_neg c4] at H
  have c4b0 : decide (a1 ≤ a0) = false := decide_eq_false c4
  clear c4
  obtain rfl := Option.some.inj H
  go_enter Tryz.func185, Tryz.ntmps185
  go_wp2
  go_ret
  exact ⟨eS, eD⟩
mutual
def xaP.j0 : Nat → Bool → Int → Int → Int → Int → Int → Int → Int → Int → Int → List (S214) → Option (Int)
  | 0, _, _, _, _, _, _, _, _, _, _, _ => none
  | k + 1, x5, x859000, x859001, x859002, x859003, x859004, x859005, x859006, x859007, x859008, x859009 => if x5 = true then (some 51) else (if x859000 ≥ x859001 then (some 80) else ((xaQ.f x859002 1 1200).bind fun t861 => (if t861 = true then ((xaQ.f x859003 1 4).bind fun t862 => (if t862 = true then ((xaQ.f x859004 1 4).bind fun t863 => (if t863 = true then ((xaQ.f x859005 0 2).bind fun t864 => (if t864 = true then (if x859005 = 0 then (xaP.j1 k false x859000 x859001 x859002 x859003 x859004 x859005 x859006 x859007 x859008 x859009) else (xaP.j1 k (decide (x859003 ≤ 2)) x859000 x859001 x859002 x859003 x859004 x859005 x859006 x859007 x859008 x859009)) else (some 80))) else (some 80))) else (some 80))) else (some 80))))
def xaP.j1 : Nat → Bool → Int → Int → Int → Int → Int → Int → Int → Int → Int → List (S214) → Option (Int)
  | 0, _, _, _, _, _, _, _, _, _, _, _ => none
  | k + 1, x16, x859000, x859001, x859002, x859003, x859004, x859005, x859006, x859007, x859008, x859009 => if x16 = true then (some 80) else ((xaQ.f x859006 0 4).bind fun t865 => (if t865 = true then ((xaQ.f x859007 0 30).bind fun t866 => (if t866 = true then ((xcR.f x859008 x859009).bind fun bt867 => (some bt867.1)) else (some 80))) else (some 80)))
end
def xaP.f (k : Nat) (a0_0 a0_1 a0_2 a0_3 a0_4 a0_5 a0_6 a0_7 a0_8 : Int) (l0_9 : List (S214)) : Option (Int) := (xcD.f a0_0).bind fun t859 => (if t859 = true then ((xcD.f a0_1).bind fun t860 => (xaP.j0 k (!t860) a0_0 a0_1 a0_2 a0_3 a0_4 a0_5 a0_6 a0_7 a0_8 l0_9)) else (xaP.j0 k true a0_0 a0_1 a0_2 a0_3 a0_4 a0_5 a0_6 a0_7 a0_8 l0_9))
theorem xaP.calls (k : Nat) (a0_0 a0_1 a0_2 a0_3 a0_4 a0_5 a0_6 a0_7 a0_8 : Int) (A0_9 : Option Addr) (c0_9 : Nat) (l0_9 : List (S214)) (r : Int) (w : World) (hr0_9 : Kd.C k214 w A0_9 l0_9.length l0_9) (hc0_9 : l0_9.length ≤ c0_9) (h : xaP.f k a0_0 a0_1 a0_2 a0_3 a0_4 a0_5 a0_6 a0_7 a0_8 l0_9 = some r) :
  Calls Tryz.prog 172 #[.agg #[.int .i64 a0_0, .int .i64 a0_1, .int .i64 a0_2, .int .i64 a0_3, .int .i64 a0_4, .int .i64 a0_5, .int .i64 a0_6, .int .i64 a0_7, .int .i64 a0_8, .slice A0_9 l0_9.length c0_9]] w fun e w' => e = .returned (.int .i64 r) ∧ Below w.heap.size w w' := by
 have hu117 := Tryz.underlying117;have hu115 := Tryz.underlying115;have HR0_9 := Aside0.mk hr0_9;have HC0_9 := Aside0.mk hc0_9;clear hr0_9 hc0_9
 have HB := Aside0.mk (Below.refl w.heap.size w)
 have H : ((xcD.f a0_0).bind fun t859 => (if t859 = true then ((xcD.f a0_1).bind fun t860 => (xaP.j0 k (!t860) a0_0 a0_1 a0_2 a0_3 a0_4 a0_5 a0_6 a0_7 a0_8 l0_9)) else (xaP.j0 k true a0_0 a0_1 a0_2 a0_3 a0_4 a0_5 a0_6 a0_7 a0_8 l0_9))) = some r := h
 clear h;have HC2 := Aside0.mk H;clear H
 go_enter Tryz.func172, Tryz.ntmps172
 go_upto_region 1 with (first | ((with_reducible refine xaU (N := 1) rfl ?_); refine xaT ?hg (N := 1) ?hd (cs := #[.int .i64 a0_0, .int .i64 a0_1, .int .i64 a0_2, .int .i64 a0_3, .int .i64 a0_4, .int .i64 a0_5, .int .i64 a0_6, .int .i64 a0_7, .int .i64 a0_8, .slice A0_9 l0_9.length c0_9]) (t := 117) ?hr ?_; (case hd => rfl); (case hg => rfl); (case hr => first | (go_simp; done) | (go_simp; rfl)); intro gb858 hg w3 hbox hb; have BK858 := Aside0.mk (hbox); have GW858 := bG hg; have GE858 := bG hg; replace HB := bS hb; clear hb hbox hg))
 (try simp only [Act.put, List.setIfInBounds_toArray, List.set_cons_zero, List.set_cons_succ])
 go_cut [5] (fun v5 wc => ∃ (kq : Nat) (x5_1 : Bool), v5 = .bool x5_1 ∧ Aside0 (xaP.j0 kq x5_1 a0_0 a0_1 a0_2 a0_3 a0_4 a0_5 a0_6 a0_7 a0_8 l0_9 = some r) ∧ Aside0 (kq ≤ k) ∧ Aside0 (wc.heap[gb858]? = some (.cells #[.int .i64 a0_0, .int .i64 a0_1, .int .i64 a0_2, .int .i64 a0_3, .int .i64 a0_4, .int .i64 a0_5, .int .i64 a0_6, .int .i64 a0_7, .int .i64 a0_8, (.slice A0_9 l0_9.length c0_9)] 117 (0, 0))) ∧ Aside0 (Below w.heap.size w wc))
 case first =>
  have H := HC2.out;clear HC2;replace H := Option.bind_eq_some_iff.mp H
  obtain ⟨t859, A40, H⟩ := H
  replace H : (if t859 = true then ((xcD.f a0_1).bind fun t860 => (xaP.j0 k (!t860) a0_0 a0_1 a0_2 a0_3 a0_4 a0_5 a0_6 a0_7 a0_8 l0_9)) else (xaP.j0 k true a0_0 a0_1 a0_2 a0_3 a0_4 a0_5 a0_6 a0_7 a0_8 l0_9)) = some r := H
  have A4 := Aside0.mk A40;clear A40
  by_cases c5 : t859 = true
  ·
   subst c5
   have H1 : ((xcD.f a0_1).bind fun t860 => (xaP.j0 k (!t860) a0_0 a0_1 a0_2 a0_3 a0_4 a0_5 a0_6 a0_7 a0_8 l0_9)) = some r := by rw [if_pos rfl] at H; exact H
   clear H;have H := H1;clear H1;replace H := Option.bind_eq_some_iff.mp H
   obtain ⟨t860, A60, H⟩ := H
   replace H : (xaP.j0 k (!t860) a0_0 a0_1 a0_2 a0_3 a0_4 a0_5 a0_6 a0_7 a0_8 l0_9) = some r := H
   have A6 := Aside0.mk A60;clear A60;have H' := Aside0.mk H;clear H
   obtain ⟨_,_,_,_,_,_,_,_,_,_,_,_,_,_,_,_,_,_,_,_⟩ := blk10 BK858
   go_wp2_with (first | ((with_reducible refine gG 184 ?_); refine goA (some 8) Tryz.func184 #[.int .i64 a0_0] ?_; (with_reducible refine (xcD.calls a0_0 true _ A4.out).mono ?_); rintro e w' ⟨rfl, ⟨nd, rfl⟩⟩; refine ⟨_, rfl, ?_⟩) | (go_at_call 184; (with_reducible refine (xcD.calls a0_1 t860 _ A6.out).mono ?_); rintro e w' ⟨rfl, ⟨nd, rfl⟩⟩))
   go_meet
   case rel => exact ⟨_, (!t860), eS, H', ⟨eN⟩, ⟨(bk BK858)⟩, ⟨bB⟩⟩
  ·
   replace c5 := Bool.eq_false_iff.mpr c5;subst c5
   have H1 : (xaP.j0 k true a0_0 a0_1 a0_2 a0_3 a0_4 a0_5 a0_6 a0_7 a0_8 l0_9) = some r := by rw [if_neg (show ¬ (false = true) by decide)] at H; exact H
   clear H;have H := H1;clear H1;have H' := Aside0.mk H;clear H
   obtain ⟨_,_,_,_,_,_,_,_,_,_,_,_,_,_,_,_,_,_,_,_⟩ := blk10 BK858
   go_wp2_with (first | ((with_reducible refine gG 184 ?_); refine goA (some 8) Tryz.func184 #[.int .i64 a0_0] ?_; (with_reducible refine (xcD.calls a0_0 false _ A4.out).mono ?_); rintro e w' ⟨rfl, ⟨nd, rfl⟩⟩; refine ⟨_, rfl, ?_⟩))
   go_meet
   case rel => exact ⟨_, (true), eS, H', ⟨eN⟩, ⟨(bk BK858)⟩, ⟨bB⟩⟩
 case rest =>
  clear HC2
  obtain ⟨kq, x5_1, rfl, HA, HJ1, BK858, HB⟩ := hcut
  cases kq with
  | zero => exact absurd HA.out (by simp [xaP.j0])
  | succ kj1 =>
   have H := HA.out;clear HA
   simp only [xaP.j0] at H
   by_cases c9 : x5_1 = true
   ·
    subst c9
    have H1 : (some 51) = some r := by rw [if_pos rfl] at H; exact H
    clear H;have H := H1;clear H1
    obtain rfl := Option.some.inj H
    go_wp2
    go_ret
    exact ⟨eW, bB⟩
   ·
    replace c9 := Bool.eq_false_iff.mpr c9;subst c9
    have H1 : (if a0_0 ≥ a0_1 then (some 80) else ((xaQ.f a0_2 1 1200).bind fun t861 => (if t861 = true then ((xaQ.f a0_3 1 4).bind fun t862 => (if t862 = true then ((xaQ.f a0_4 1 4).bind fun t863 => (if t863 = true then ((xaQ.f a0_5 0 2).bind fun t864 => (if t864 = true then (if a0_5 = 0 then (xaP.j1 kj1 false a0_0 a0_1 a0_2 a0_3 a0_4 a0_5 a0_6 a0_7 a0_8 l0_9) else (xaP.j1 kj1 (decide (a0_3 ≤ 2)) a0_0 a0_1 a0_2 a0_3 a0_4 a0_5 a0_6 a0_7 a0_8 l0_9)) else (some 80))) else (some 80))) else (some 80))) else (some 80)))) = some r := by rw [if_neg (show ¬ (false = true) by decide)] at H; exact H
    clear H;have H := H1;clear H1
    by_cases c10 : a0_0 ≥ a0_1
    ·
     rw [if_pos c10] at H
     have c10b0 : decide (a0_1 ≤ a0_0) = true := decide_eq_true c10
     clear c10
     obtain rfl := Option.some.inj H
     obtain ⟨_,_,_,_,_,_,_,_,_,_,_,_,_,_,_,_,_,_,_,_⟩ := blk10 BK858
     go_wp2
     go_ret
     exact ⟨eW, bB⟩
    ·
     rw [if_neg c10] at H
     have c10b0 : decide (a0_1 ≤ a0_0) = false := decide_eq_false c10
     clear c10;replace H := Option.bind_eq_some_iff.mp H
     obtain ⟨t861, A120, H⟩ := H
     replace H : (if t861 = true then ((xaQ.f a0_3 1 4).bind fun t862 => (if t862 = true then ((xaQ.f a0_4 1 4).bind fun t863 => (if t863 = true then ((xaQ.f a0_5 0 2).bind fun t864 => (if t864 = true then (if a0_5 = 0 then (xaP.j1 kj1 false a0_0 a0_1 a0_2 a0_3 a0_4 a0_5 a0_6 a0_7 a0_8 l0_9) else (xaP.j1 kj1 (decide (a0_3 ≤ 2)) a0_0 a0_1 a0_2 a0_3 a0_4 a0_5 a0_6 a0_7 a0_8 l0_9)) else (some 80))) else (some 80))) else (some 80))) else (some 80)) = some r := H
     have A12 := Aside0.mk A120;clear A120
     by_cases c13 : t861 = true
     ·
      subst c13
      have H1 : ((xaQ.f a0_3 1 4).bind fun t862 => (if t862 = true then ((xaQ.f a0_4 1 4).bind fun t863 => (if t863 = true then ((xaQ.f a0_5 0 2).bind fun t864 => (if t864 = true then (if a0_5 = 0 then (xaP.j1 kj1 false a0_0 a0_1 a0_2 a0_3 a0_4 a0_5 a0_6 a0_7 a0_8 l0_9) else (xaP.j1 kj1 (decide (a0_3 ≤ 2)) a0_0 a0_1 a0_2 a0_3 a0_4 a0_5 a0_6 a0_7 a0_8 l0_9)) else (some 80))) else (some 80))) else (some 80))) = some r := by rw [if_pos rfl] at H; exact H
      clear H;have H := H1;clear H1;replace H := Option.bind_eq_some_iff.mp H
      obtain ⟨t862, A140, H⟩ := H
      replace H : (if t862 = true then ((xaQ.f a0_4 1 4).bind fun t863 => (if t863 = true then ((xaQ.f a0_5 0 2).bind fun t864 => (if t864 = true then (if a0_5 = 0 then (xaP.j1 kj1 false a0_0 a0_1 a0_2 a0_3 a0_4 a0_5 a0_6 a0_7 a0_8 l0_9) else (xaP.j1 kj1 (decide (a0_3 ≤ 2)) a0_0 a0_1 a0_2 a0_3 a0_4 a0_5 a0_6 a0_7 a0_8 l0_9)) else (some 80))) else (some 80))) else (some 80)) = some r := H
      have A14 := Aside0.mk A140;clear A140
      by_cases c15 : t862 = true
      ·
       subst c15
       have H1 : ((xaQ.f a0_4 1 4).bind fun t863 => (if t863 = true then ((xaQ.f a0_5 0 2).bind fun t864 => (if t864 = true then (if a0_5 = 0 then (xaP.j1 kj1 false a0_0 a0_1 a0_2 a0_3 a0_4 a0_5 a0_6 a0_7 a0_8 l0_9) else (xaP.j1 kj1 (decide (a0_3 ≤ 2)) a0_0 a0_1 a0_2 a0_3 a0_4 a0_5 a0_6 a0_7 a0_8 l0_9)) else (some 80))) else (some 80))) = some r := by rw [if_pos rfl] at H; exact H
       clear H;have H := H1;clear H1;replace H := Option.bind_eq_some_iff.mp H
       obtain ⟨t863, A160, H⟩ := H
       replace H : (if t863 = true then ((xaQ.f a0_5 0 2).bind fun t864 => (if t864 = true then (if a0_5 = 0 then (xaP.j1 kj1 false a0_0 a0_1 a0_2 a0_3 a0_4 a0_5 a0_6 a0_7 a0_8 l0_9) else (xaP.j1 kj1 (decide (a0_3 ≤ 2)) a0_0 a0_1 a0_2 a0_3 a0_4 a0_5 a0_6 a0_7 a0_8 l0_9)) else (some 80))) else (some 80)) = some r := H
       have A16 := Aside0.mk A160;clear A160
       by_cases c17 : t863 = true
       ·
        subst c17
        have H1 : ((xaQ.f a0_5 0 2).bind fun t864 => (if t864 = true then (if a0_5 = 0 then (xaP.j1 kj1 false a0_0 a0_1 a0_2 a0_3 a0_4 a0_5 a0_6 a0_7 a0_8 l0_9) else (xaP.j1 kj1 (decide (a0_3 ≤ 2)) a0_0 a0_1 a0_2 a0_3 a0_4 a0_5 a0_6 a0_7 a0_8 l0_9)) else (some 80))) = some r := by rw [if_pos rfl] at H; exact H
        clear H;have H := H1;clear H1;replace H := Option.bind_eq_some_iff.mp H
        obtain ⟨t864, A180, H⟩ := H
        replace H : (if t864 = true then (if a0_5 = 0 then (xaP.j1 kj1 false a0_0 a0_1 a0_2 a0_3 a0_4 a0_5 a0_6 a0_7 a0_8 l0_9) else (xaP.j1 kj1 (decide (a0_3 ≤ 2)) a0_0 a0_1 a0_2 a0_3 a0_4 a0_5 a0_6 a0_7 a0_8 l0_9)) else (some 80)) = some r := H
        have A18 := Aside0.mk A180;clear A180
        by_cases c19 : t864 = true
        ·
         subst c19
         have H1 : (if a0_5 = 0 then (xaP.j1 kj1 false a0_0 a0_1 a0_2 a0_3 a0_4 a0_5 a0_6 a0_7 a0_8 l0_9) else (xaP.j1 kj1 (decide (a0_3 ≤ 2)) a0_0 a0_1 a0_2 a0_3 a0_4 a0_5 a0_6 a0_7 a0_8 l0_9)) = some r := by rw [if_pos rfl] at H; exact H
         clear H;have H := H1;clear H1;have HC20 := Aside0.mk H;clear H
         obtain ⟨_,_,_,_,_,_,_,_,_,_,_,_,_,_,_,_,_,_,_,_⟩ := blk10 BK858
         go_upto_region 8 with (first | ((with_reducible refine gG 185 ?_); refine goA (some 24) Tryz.func185 #[.int .i64 a0_2, .int .i64 1, .int .i64 1200] ?_; (with_reducible refine (xaQ.calls a0_2 1 1200 true _ A12.out).mono ?_); rintro e w' ⟨rfl, ⟨nd, rfl⟩⟩; refine ⟨_, rfl, ?_⟩) | ((with_reducible refine gG 185 ?_); refine goA (some 28) Tryz.func185 #[.int .i64 a0_3, .int .i64 1, .int .i64 4] ?_; (with_reducible refine (xaQ.calls a0_3 1 4 true _ A14.out).mono ?_); rintro e w' ⟨rfl, ⟨nd, rfl⟩⟩; refine ⟨_, rfl, ?_⟩) | ((with_reducible refine gG 185 ?_); refine goA (some 32) Tryz.func185 #[.int .i64 a0_4, .int .i64 1, .int .i64 4] ?_; (with_reducible refine (xaQ.calls a0_4 1 4 true _ A16.out).mono ?_); rintro e w' ⟨rfl, ⟨nd, rfl⟩⟩; refine ⟨_, rfl, ?_⟩) | ((with_reducible refine gG 185 ?_); refine goA (some 36) Tryz.func185 #[.int .i64 a0_5, .int .i64 0, .int .i64 2] ?_; (with_reducible refine (xaQ.calls a0_5 0 2 true _ A18.out).mono ?_); rintro e w' ⟨rfl, ⟨nd, rfl⟩⟩; refine ⟨_, rfl, ?_⟩))
         (try simp only [Act.put, List.setIfInBounds_toArray, List.set_cons_zero, List.set_cons_succ])
         go_cut [16] (fun v16 wc => ∃ (kq : Nat) (x16_19 : Bool), v16 = .bool x16_19 ∧ Aside0 (xaP.j1 kq x16_19 a0_0 a0_1 a0_2 a0_3 a0_4 a0_5 a0_6 a0_7 a0_8 l0_9 = some r) ∧ Aside0 (kq ≤ kj1) ∧ Aside0 (wc.heap[gb858]? = some (.cells #[.int .i64 a0_0, .int .i64 a0_1, .int .i64 a0_2, .int .i64 a0_3, .int .i64 a0_4, .int .i64 a0_5, .int .i64 a0_6, .int .i64 a0_7, .int .i64 a0_8, (.slice A0_9 l0_9.length c0_9)] 117 (0, 0))) ∧ Aside0 (Below w.heap.size w wc))
         case first =>
          have H := HC20.out;clear HC20
          by_cases c22 : a0_5 = 0
          ·
           rw [if_pos c22] at H
           have c22b0 : (a0_5 == 0) = true := beq_iff_eq.mpr c22
           have c22b1 : (a0_5 != 0) = false := bne_eq_false_iff_eq.mpr c22
           clear c22
           (first | rw [c22b0] | (simp only [i64_w, i32_w]; rw [c22b0]) | skip)
           have H' := Aside0.mk H;clear H
           obtain ⟨_,_,_,_,_,_,_,_,_,_,_,_,_,_,_,_,_,_,_,_⟩ := blk10 BK858
           go_wp2
           go_meet
           case rel => exact ⟨_, (false), eS, H', ⟨by have := HJ1.out; first | omega | exact Nat.le_refl _⟩, ⟨(bk BK858)⟩, ⟨bB⟩⟩
          ·
           rw [if_neg c22] at H
           have c22b0 : (a0_5 == 0) = false := beq_eq_false_iff_ne.mpr c22
           have c22b1 : (a0_5 != 0) = true := bne_iff_ne.mpr c22
           (first | rw [c22b0] | (simp only [i64_w, i32_w]; rw [c22b0]) | skip)
           have H' := Aside0.mk H;clear H
           obtain ⟨_,_,_,_,_,_,_,_,_,_,_,_,_,_,_,_,_,_,_,_⟩ := blk10 BK858
           go_wp2
           go_meet
           case rel => exact ⟨_, (decide (a0_3 ≤ 2)), eS, H', ⟨by have := HJ1.out; first | omega | exact Nat.le_refl _⟩, ⟨(bk BK858)⟩, ⟨bB⟩⟩
         case rest =>
          clear HC20
          obtain ⟨kq, x16_19, rfl, HA, HJ19, BK858, HB⟩ := hcut
          cases kq with
          | zero => exact absurd HA.out (by simp [xaP.j1])
          | succ kj19 =>
           have H := HA.out;clear HA
           simp only [xaP.j1] at H
           by_cases c25 : x16_19 = true
           ·
            subst c25
            have H1 : (some 80) = some r := by rw [if_pos rfl] at H; exact H
            clear H;have H := H1;clear H1
            obtain rfl := Option.some.inj H
            go_wp2
            go_ret
            exact ⟨eW, bB⟩
           ·
            replace c25 := Bool.eq_false_iff.mpr c25;subst c25
            have H1 : ((xaQ.f a0_6 0 4).bind fun t865 => (if t865 = true then ((xaQ.f a0_7 0 30).bind fun t866 => (if t866 = true then ((xcR.f a0_8 l0_9).bind fun bt867 => (some bt867.1)) else (some 80))) else (some 80))) = some r := by rw [if_neg (show ¬ (false = true) by decide)] at H; exact H
            clear H;have H := H1;clear H1;replace H := Option.bind_eq_some_iff.mp H
            obtain ⟨t865, A260, H⟩ := H
            replace H : (if t865 = true then ((xaQ.f a0_7 0 30).bind fun t866 => (if t866 = true then ((xcR.f a0_8 l0_9).bind fun bt867 => (some bt867.1)) else (some 80))) else (some 80)) = some r := H
            have A26 := Aside0.mk A260;clear A260
            by_cases c27 : t865 = true
            ·
             subst c27
             have H1 : ((xaQ.f a0_7 0 30).bind fun t866 => (if t866 = true then ((xcR.f a0_8 l0_9).bind fun bt867 => (some bt867.1)) else (some 80))) = some r := by rw [if_pos rfl] at H; exact H
             clear H;have H := H1;clear H1;replace H := Option.bind_eq_some_iff.mp H
             obtain ⟨t866, A280, H⟩ := H
             replace H : (if t866 = true then ((xcR.f a0_8 l0_9).bind fun bt867 => (some bt867.1)) else (some 80)) = some r := H
             have A28 := Aside0.mk A280;clear A280
             by_cases c29 : t866 = true
             ·
              subst c29
              have H1 : ((xcR.f a0_8 l0_9).bind fun bt867 => (some bt867.1)) = some r := by rw [if_pos rfl] at H; exact H
              clear H;have H := H1;clear H1;replace H := Option.bind_eq_some_iff.mp H
              obtain ⟨⟨t867, t868⟩, A300, H⟩ := H
              replace H : (some t867) = some r := H
              have A30 := Aside0.mk A300;clear A300
              obtain rfl := Option.some.inj H
              obtain ⟨_,_,_,_,_,_,_,_,_,_,_,_,_,_,_,_,_,_,_,_⟩ := blk10 BK858
              go_wp2_with (first | ((with_reducible refine gG 185 ?_); refine goA (some 48) Tryz.func185 #[.int .i64 a0_6, .int .i64 0, .int .i64 4] ?_; (with_reducible refine (xaQ.calls a0_6 0 4 true _ A26.out).mono ?_); rintro e w' ⟨rfl, ⟨nd, rfl⟩⟩; refine ⟨_, rfl, ?_⟩) | ((with_reducible refine gG 185 ?_); refine goA (some 52) Tryz.func185 #[.int .i64 a0_7, .int .i64 0, .int .i64 30] ?_; (with_reducible refine (xaQ.calls a0_7 0 30 true _ A28.out).mono ?_); rintro e w' ⟨rfl, ⟨nd, rfl⟩⟩; refine ⟨_, rfl, ?_⟩) | ((with_reducible refine gG 178 ?_); refine goA (some 57) Tryz.func178 #[.agg #[.int .i64 a0_8, .slice A0_9 l0_9.length c0_9]] ?_; (with_reducible refine (xcR.calls a0_8 _ _ l0_9 t867 t868 _ ?side1 ?side2 A30.out).mono ?_); (case side1 => repeat (first | exact (Kd.xbP HR0_9.out bB) | (with_reducible refine Kd.C_alloc ?_ _) | (with_reducible refine Kd.C_drewN ?_ _) | (with_reducible refine Kd.C_drew ?_))); (case side2 => exact HC0_9.out); rintro e w32 ⟨rfl, hb⟩; refine ⟨_, rfl, ?_⟩; replace BK858 := bK BK858 hb; replace HB := bS hb; (try clear hb); (try clear hb2); (try clear hk); (try clear hi)))
              go_ret
              exact ⟨eW, bB⟩
             ·
              replace c29 := Bool.eq_false_iff.mpr c29;subst c29
              have H1 : (some 80) = some r := by rw [if_neg (show ¬ (false = true) by decide)] at H; exact H
              clear H;have H := H1;clear H1
              obtain rfl := Option.some.inj H
              obtain ⟨_,_,_,_,_,_,_,_,_,_,_,_,_,_,_,_,_,_,_,_⟩ := blk10 BK858
              go_wp2_with (first | ((with_reducible refine gG 185 ?_); refine goA (some 48) Tryz.func185 #[.int .i64 a0_6, .int .i64 0, .int .i64 4] ?_; (with_reducible refine (xaQ.calls a0_6 0 4 true _ A26.out).mono ?_); rintro e w' ⟨rfl, ⟨nd, rfl⟩⟩; refine ⟨_, rfl, ?_⟩) | ((with_reducible refine gG 185 ?_); refine goA (some 52) Tryz.func185 #[.int .i64 a0_7, .int .i64 0, .int .i64 30] ?_; (with_reducible refine (xaQ.calls a0_7 0 30 false _ A28.out).mono ?_); rintro e w' ⟨rfl, ⟨nd, rfl⟩⟩; refine ⟨_, rfl, ?_⟩))
              go_ret
              exact ⟨eW, bB⟩
            ·
             replace c27 := Bool.eq_false_iff.mpr c27;subst c27
             have H1 : (some 80) = some r := by rw [if_neg (show ¬ (false = true) by decide)] at H; exact H
             clear H;have H := H1;clear H1
             obtain rfl := Option.some.inj H
             obtain ⟨_,_,_,_,_,_,_,_,_,_,_,_,_,_,_,_,_,_,_,_⟩ := blk10 BK858
             go_wp2_with (first | ((with_reducible refine gG 185 ?_); refine goA (some 48) Tryz.func185 #[.int .i64 a0_6, .int .i64 0, .int .i64 4] ?_; (with_reducible refine (xaQ.calls a0_6 0 4 false _ A26.out).mono ?_); rintro e w' ⟨rfl, ⟨nd, rfl⟩⟩; refine ⟨_, rfl, ?_⟩))
             go_ret
             exact ⟨eW, bB⟩
        ·
         replace c19 := Bool.eq_false_iff.mpr c19;subst c19
         have H1 : (some 80) = some r := by rw [if_neg (show ¬ (false = true) by decide)] at H; exact H
         clear H;have H := H1;clear H1
         obtain rfl := Option.some.inj H
         obtain ⟨_,_,_,_,_,_,_,_,_,_,_,_,_,_,_,_,_,_,_,_⟩ := blk10 BK858
         go_wp2_with (first | ((with_reducible refine gG 185 ?_); refine goA (some 24) Tryz.func185 #[.int .i64 a0_2, .int .i64 1, .int .i64 1200] ?_; (with_reducible refine (xaQ.calls a0_2 1 1200 true _ A12.out).mono ?_); rintro e w' ⟨rfl, ⟨nd, rfl⟩⟩; refine ⟨_, rfl, ?_⟩) | ((with_reducible refine gG 185 ?_); refine goA (some 28) Tryz.func185 #[.int .i64 a0_3, .int .i64 1, .int .i64 4] ?_; (with_reducible refine (xaQ.calls a0_3 1 4 true _ A14.out).mono ?_); rintro e w' ⟨rfl, ⟨nd, rfl⟩⟩; refine ⟨_, rfl, ?_⟩) | ((with_reducible refine gG 185 ?_); refine goA (some 32) Tryz.func185 #[.int .i64 a0_4, .int .i64 1, .int .i64 4] ?_; (with_reducible refine (xaQ.calls a0_4 1 4 true _ A16.out).mono ?_); rintro e w' ⟨rfl, ⟨nd, rfl⟩⟩; refine ⟨_, rfl, ?_⟩) | ((with_reducible refine gG 185 ?_); refine goA (some 36) Tryz.func185 #[.int .i64 a0_5, .int .i64 0, .int .i64 2] ?_; (with_reducible refine (xaQ.calls a0_5 0 2 false _ A18.out).mono ?_); rintro e w' ⟨rfl, ⟨nd, rfl⟩⟩; refine ⟨_, rfl, ?_⟩))
         go_ret
         exact ⟨eW, bB⟩
       ·
        replace c17 := Bool.eq_false_iff.mpr c17;subst c17
        have H1 : (some 80) = some r := by rw [if_neg (show ¬ (false = true) by decide)] at H; exact H
        clear H;have H := H1;clear H1
        obtain rfl := Option.some.inj H
        obtain ⟨_,_,_,_,_,_,_,_,_,_,_,_,_,_,_,_,_,_,_,_⟩ := blk10 BK858
        go_wp2_with (first | ((with_reducible refine gG 185 ?_); refine goA (some 24) Tryz.func185 #[.int .i64 a0_2, .int .i64 1, .int .i64 1200] ?_; (with_reducible refine (xaQ.calls a0_2 1 1200 true _ A12.out).mono ?_); rintro e w' ⟨rfl, ⟨nd, rfl⟩⟩; refine ⟨_, rfl, ?_⟩) | ((with_reducible refine gG 185 ?_); refine goA (some 28) Tryz.func185 #[.int .i64 a0_3, .int .i64 1, .int .i64 4] ?_; (with_reducible refine (xaQ.calls a0_3 1 4 true _ A14.out).mono ?_); rintro e w' ⟨rfl, ⟨nd, rfl⟩⟩; refine ⟨_, rfl, ?_⟩) | ((with_reducible refine gG 185 ?_); refine goA (some 32) Tryz.func185 #[.int .i64 a0_4, .int .i64 1, .int .i64 4] ?_; (with_reducible refine (xaQ.calls a0_4 1 4 false _ A16.out).mono ?_); rintro e w' ⟨rfl, ⟨nd, rfl⟩⟩; refine ⟨_, rfl, ?_⟩))
        go_ret
        exact ⟨eW, bB⟩
      ·
       replace c15 := Bool.eq_false_iff.mpr c15;subst c15
       have H1 : (some 80) = some r := by rw [if_neg (show ¬ (false = true) by decide)] at H; exact H
       clear H;have H := H1;clear H1
       obtain rfl := Option.some.inj H
       obtain ⟨_,_,_,_,_,_,_,_,_,_,_,_,_,_,_,_,_,_,_,_⟩ := blk10 BK858
       go_wp2_with (first | ((with_reducible refine gG 185 ?_); refine goA (some 24) Tryz.func185 #[.int .i64 a0_2, .int .i64 1, .int .i64 1200] ?_; (with_reducible refine (xaQ.calls a0_2 1 1200 true _ A12.out).mono ?_); rintro e w' ⟨rfl, ⟨nd, rfl⟩⟩; refine ⟨_, rfl, ?_⟩) | ((with_reducible refine gG 185 ?_); refine goA (some 28) Tryz.func185 #[.int .i64 a0_3, .int .i64 1, .int .i64 4] ?_; (with_reducible refine (xaQ.calls a0_3 1 4 false _ A14.out).mono ?_); rintro e w' ⟨rfl, ⟨nd, rfl⟩⟩; refine ⟨_, rfl, ?_⟩))
       go_ret
       exact ⟨eW, bB⟩
     ·
      replace c13 := Bool.eq_false_iff.mpr c13;subst c13
      have H1 : (some 80) = some r := by rw [if_neg (show ¬ (false = true) by decide)] at H; exact H
      clear H;have H := H1;clear H1
      obtain rfl := Option.some.inj H
      obtain ⟨_,_,_,_,_,_,_,_,_,_,_,_,_,_,_,_,_,_,_,_⟩ := blk10 BK858
      go_wp2_with (first | ((with_reducible refine gG 185 ?_); refine goA (some 24) Tryz.func185 #[.int .i64 a0_2, .int .i64 1, .int .i64 1200] ?_; (with_reducible refine (xaQ.calls a0_2 1 1200 false _ A12.out).mono ?_); rintro e w' ⟨rfl, ⟨nd, rfl⟩⟩; refine ⟨_, rfl, ?_⟩))
      go_ret
      exact ⟨eW, bB⟩
def xbE.j0 : Nat → Int → Int → Int → Int → Int → Int → Int → Int → Int → Int → Int → List (S214) → Option (Int × Bool)
  | 0, _, _, _, _, _, _, _, _, _, _, _, _ => none
  | k + 1, x1, x2, x899000, x899001, x899002, x899003, x899004, x899005, x899006, x899007, x899008, x899009 => (xbF.f k x1 x2 false).bind fun bt901 => (if bt901.2 = 0 then ((xbR.f k bt901.1).bind fun bt903 => (if x899005 = 1 then ((xdD.f bt903.1 bt903.2.1).bind fun bt907 => ((xdS.f k bt903.1 bt903.2.1 bt907.1).bind fun bt909 => (some (bt909.1, true)))) else (if x899005 = 2 then ((xdN.f k bt903.1 bt903.2.1).bind fun bt911 => (some (bt911.1, true))) else (some (bt901.1, true))))) else (some (0, false)))
def xbE.f (k : Nat) (a0_0 a0_1 a0_2 a0_3 a0_4 a0_5 a0_6 a0_7 a0_8 : Int) (l0_9 : List (S214)) (a1 a2 : Int) : Option (Int × Bool) := if a0_3 = 2 then ((xcD.f (wrap64 (a1 + (wrap64 ((wrap64 ((mn (mx a2 (-1048576)) 1048576) * a0_2)) * 7))))).bind fun t899 => (some (wrap64 (a1 + (wrap64 ((wrap64 ((mn (mx a2 (-1048576)) 1048576) * a0_2)) * 7))), t899))) else (if a0_3 = 1 then ((xcD.f (wrap64 (a1 + (wrap64 ((mn (mx a2 (-1048576)) 1048576) * a0_2))))).bind fun t900 => (some (wrap64 (a1 + (wrap64 ((mn (mx a2 (-1048576)) 1048576) * a0_2))), t900))) else (if a0_3 = 4 then (xbE.j0 k a1 (wrap64 ((wrap64 ((mn (mx a2 (-1048576)) 1048576) * a0_2)) * 12)) a0_0 a0_1 a0_2 a0_3 a0_4 a0_5 a0_6 a0_7 a0_8 l0_9) else (xbE.j0 k a1 (wrap64 ((mn (mx a2 (-1048576)) 1048576) * a0_2)) a0_0 a0_1 a0_2 a0_3 a0_4 a0_5 a0_6 a0_7 a0_8 l0_9)))
theorem xbE.calls (k : Nat) (a0_0 a0_1 a0_2 a0_3 a0_4 a0_5 a0_6 a0_7 a0_8 : Int) (A0_9 : Option Addr) (c0_9 : Nat) (l0_9 : List (S214)) (a1 a2 r1 : Int) (r2 : Bool) (w : World) (hr0_9 : Kd.C k214 w A0_9 l0_9.length l0_9) (hc0_9 : l0_9.length ≤ c0_9) (h : xbE.f k a0_0 a0_1 a0_2 a0_3 a0_4 a0_5 a0_6 a0_7 a0_8 l0_9 a1 a2 = some (r1, r2)) :
  Calls Tryz.prog 173 #[.agg #[.int .i64 a0_0, .int .i64 a0_1, .int .i64 a0_2, .int .i64 a0_3, .int .i64 a0_4, .int .i64 a0_5, .int .i64 a0_6, .int .i64 a0_7, .int .i64 a0_8, .slice A0_9 l0_9.length c0_9], .int .i64 a1, .int .i64 a2] w fun e w' => e = .returned (.tuple #[.int .i64 r1, .bool r2]) ∧ Below w.heap.size w w' := by
 have hu117 := Tryz.underlying117;have HR0_9 := Aside0.mk hr0_9;have HC0_9 := Aside0.mk hc0_9;clear hr0_9 hc0_9
 have HB := Aside0.mk (Below.refl w.heap.size w)
 have H : (if a0_3 = 2 then ((xcD.f (wrap64 (a1 + (wrap64 ((wrap64 ((mn (mx a2 (-1048576)) 1048576) * a0_2)) * 7))))).bind fun t899 => (some (wrap64 (a1 + (wrap64 ((wrap64 ((mn (mx a2 (-1048576)) 1048576) * a0_2)) * 7))), t899))) else (if a0_3 = 1 then ((xcD.f (wrap64 (a1 + (wrap64 ((mn (mx a2 (-1048576)) 1048576) * a0_2))))).bind fun t900 => (some (wrap64 (a1 + (wrap64 ((mn (mx a2 (-1048576)) 1048576) * a0_2))), t900))) else (if a0_3 = 4 then (xbE.j0 k a1 (wrap64 ((wrap64 ((mn (mx a2 (-1048576)) 1048576) * a0_2)) * 12)) a0_0 a0_1 a0_2 a0_3 a0_4 a0_5 a0_6 a0_7 a0_8 l0_9) else (xbE.j0 k a1 (wrap64 ((mn (mx a2 (-1048576)) 1048576) * a0_2)) a0_0 a0_1 a0_2 a0_3 a0_4 a0_5 a0_6 a0_7 a0_8 l0_9)))) = some (r1, r2) := h
 clear h
 obtain ⟨ji4, hji4⟩ : ∃ j_ : Int, (mx a2 (-1048576)) = j_ := ⟨_, rfl⟩
 replace H : (if a0_3 = 2 then ((xcD.f (wrap64 (a1 + (wrap64 ((wrap64 ((mn (ji4) 1048576) * a0_2)) * 7))))).bind fun t899 => (some (wrap64 (a1 + (wrap64 ((wrap64 ((mn (ji4) 1048576) * a0_2)) * 7))), t899))) else (if a0_3 = 1 then ((xcD.f (wrap64 (a1 + (wrap64 ((mn (ji4) 1048576) * a0_2))))).bind fun t900 => (some (wrap64 (a1 + (wrap64 ((mn (ji4) 1048576) * a0_2))), t900))) else (if a0_3 = 4 then (xbE.j0 k a1 (wrap64 ((wrap64 ((mn (ji4) 1048576) * a0_2)) * 12)) a0_0 a0_1 a0_2 a0_3 a0_4 a0_5 a0_6 a0_7 a0_8 l0_9) else (xbE.j0 k a1 (wrap64 ((mn (ji4) 1048576) * a0_2)) a0_0 a0_1 a0_2 a0_3 a0_4 a0_5 a0_6 a0_7 a0_8 l0_9)))) = some (r1, r2) := by first | (rw [hji4] at H; exact H) | (simp only [hji4] at H ⊢; exact H)
 have hji4_ : (if a2 < (-1048576) then (-1048576) else a2) = ji4 := hji4
 obtain ⟨ji5, hji5⟩ : ∃ j_ : Int, (mn (ji4) 1048576) = j_ := ⟨_, rfl⟩
 replace H : (if a0_3 = 2 then ((xcD.f (wrap64 (a1 + (wrap64 ((wrap64 ((ji5) * a0_2)) * 7))))).bind fun t899 => (some (wrap64 (a1 + (wrap64 ((wrap64 ((ji5) * a0_2)) * 7))), t899))) else (if a0_3 = 1 then ((xcD.f (wrap64 (a1 + (wrap64 ((ji5) * a0_2))))).bind fun t900 => (some (wrap64 (a1 + (wrap64 ((ji5) * a0_2))), t900))) else (if a0_3 = 4 then (xbE.j0 k a1 (wrap64 ((wrap64 ((ji5) * a0_2)) * 12)) a0_0 a0_1 a0_2 a0_3 a0_4 a0_5 a0_6 a0_7 a0_8 l0_9) else (xbE.j0 k a1 (wrap64 ((ji5) * a0_2)) a0_0 a0_1 a0_2 a0_3 a0_4 a0_5 a0_6 a0_7 a0_8 l0_9)))) = some (r1, r2) := by first | (rw [hji5] at H; exact H) | (simp only [hji5] at H ⊢; exact H)
 have hji5_ : (if 1048576 < (ji4) then 1048576 else (ji4)) = ji5 := hji5
 have HC6 := Aside0.mk H;clear H
 go_enter Tryz.func173, Tryz.ntmps173
 go_upto_block 0 with (first | ((with_reducible refine xaU (N := 3) rfl ?_); refine xaT ?hg (N := 3) ?hd (cs := #[.int .i64 a0_0, .int .i64 a0_1, .int .i64 a0_2, .int .i64 a0_3, .int .i64 a0_4, .int .i64 a0_5, .int .i64 a0_6, .int .i64 a0_7, .int .i64 a0_8, .slice A0_9 l0_9.length c0_9]) (t := 117) ?hr ?_; (case hd => rfl); (case hg => rfl); (case hr => first | (go_simp; done) | (go_simp; rfl)); intro gb898 hg w7 hbox hb; have BK898 := Aside0.mk (hbox); have GW898 := bG hg; have GE898 := bG hg; replace HB := bS hb; clear hb hbox hg; obtain ⟨_,_,_,_,_,_,_,_,_,_,_,_,_,_,_,_,_,_,_,_⟩ := blk10 BK898))
 (try simp only [Act.put, List.setIfInBounds_toArray, List.set_cons_zero, List.set_cons_succ])
 go_cut [2] (fun v2 wc => ∃ (kq : Nat) (x2_5 : Int), v2 = .int .i64 x2_5 ∧ Aside0 (xbE.j0 kq a1 x2_5 a0_0 a0_1 a0_2 a0_3 a0_4 a0_5 a0_6 a0_7 a0_8 l0_9 = some (r1, r2)) ∧ Aside0 (kq ≤ k) ∧ Aside0 (wc.heap[gb898]? = some (.cells #[.int .i64 a0_0, .int .i64 a0_1, .int .i64 a0_2, .int .i64 a0_3, .int .i64 a0_4, .int .i64 a0_5, .int .i64 a0_6, .int .i64 a0_7, .int .i64 a0_8, (.slice A0_9 l0_9.length c0_9)] 117 (0, 0))) ∧ Aside0 (Below w.heap.size w wc))
 case first =>
  have H := HC6.out;clear HC6
  by_cases c9 : a0_3 = 2
  ·
   rw [if_pos c9] at H
   have c9b0 : (a0_3 == 2) = true := beq_iff_eq.mpr c9
   have c9b1 : (a0_3 != 2) = false := bne_eq_false_iff_eq.mpr c9
   clear c9
   (first | rw [c9b0] | (simp only [i64_w, i32_w]; rw [c9b0]) | skip)
   replace H := Option.bind_eq_some_iff.mp H
   obtain ⟨t899, A100, H⟩ := H
   replace H : (some (wrap64 (a1 + (wrap64 ((wrap64 ((ji5) * a0_2)) * 7))), t899)) = some (r1, r2) := H
   have A10 := Aside0.mk A100;clear A100
   simp only [Option.some.injEq, Prod.mk.injEq] at H
   obtain ⟨rfl, rfl⟩ := H
   go_wp2_with (first | ((with_reducible refine xdX (f := 184) rfl ?_); refine goesL_ (some 38) rfl rfl Tryz.func184 (by kernel_rfl) rfl #[.int .i64 (wrap64 (a1 + (wrap64 ((wrap64 ((ji5) * a0_2)) * 7))))] rfl (by (try simp only [List.map_toArray, List.map_cons, List.map_nil]); first | done | (simp only [hji5]; rfl) | rfl | (simp only [List.length_drop, List.length_take]; rfl)) ?_; (with_reducible refine (xcD.calls (wrap64 (a1 + (wrap64 ((wrap64 ((ji5) * a0_2)) * 7)))) t899 _ A10.out).mono ?_); rintro e w' ⟨rfl, ⟨nd, rfl⟩⟩; refine ⟨_, rfl, ?_⟩))
   go_ret2
   exact ⟨by first | rfl | (simp [xbD, xbC] <;> rfl) | (simp only [← hji4, ← hji5]; first | rfl | (simp [xbD, xbC] <;> rfl)) | (simp [*, xbD, xbC] <;> rfl), bB⟩
  ·
   rw [if_neg c9] at H
   have c9b0 : (a0_3 == 2) = false := beq_eq_false_iff_ne.mpr c9
   have c9b1 : (a0_3 != 2) = true := bne_iff_ne.mpr c9
   (first | rw [c9b0] | (simp only [i64_w, i32_w]; rw [c9b0]) | skip)
   by_cases c11 : a0_3 = 1
   ·
    rw [if_pos c11] at H
    have c11b0 : (a0_3 == 1) = true := beq_iff_eq.mpr c11
    have c11b1 : (a0_3 != 1) = false := bne_eq_false_iff_eq.mpr c11
    clear c11;replace H := Option.bind_eq_some_iff.mp H
    obtain ⟨t900, A120, H⟩ := H
    replace H : (some (wrap64 (a1 + (wrap64 ((ji5) * a0_2))), t900)) = some (r1, r2) := H
    have A12 := Aside0.mk A120;clear A120
    simp only [Option.some.injEq, Prod.mk.injEq] at H
    obtain ⟨rfl, rfl⟩ := H
    go_wp2_with (first | ((with_reducible refine xdX (f := 184) rfl ?_); refine goesL_ (some 38) rfl rfl Tryz.func184 (by kernel_rfl) rfl #[.int .i64 (wrap64 (a1 + (wrap64 ((ji5) * a0_2))))] rfl (by (try simp only [List.map_toArray, List.map_cons, List.map_nil]); first | done | (simp only [hji5]; rfl) | rfl | (simp only [List.length_drop, List.length_take]; rfl)) ?_; (with_reducible refine (xcD.calls (wrap64 (a1 + (wrap64 ((ji5) * a0_2)))) t900 _ A12.out).mono ?_); rintro e w' ⟨rfl, ⟨nd, rfl⟩⟩; refine ⟨_, rfl, ?_⟩))
    go_ret2
    exact ⟨by first | rfl | (simp [xbD, xbC] <;> rfl) | (simp only [← hji4, ← hji5]; first | rfl | (simp [xbD, xbC] <;> rfl)) | (simp [*, xbD, xbC] <;> rfl), bB⟩
   ·
    rw [if_neg c11] at H
    have c11b0 : (a0_3 == 1) = false := beq_eq_false_iff_ne.mpr c11
    have c11b1 : (a0_3 != 1) = true := bne_iff_ne.mpr c11
    by_cases c13 : a0_3 = 4
    ·
     rw [if_pos c13] at H
     have c13b0 : (a0_3 == 4) = true := beq_iff_eq.mpr c13
     have c13b1 : (a0_3 != 4) = false := bne_eq_false_iff_eq.mpr c13
     clear c13;have H' := Aside0.mk H;clear H
     go_wp2
     go_meet
     case rel => exact ⟨_, (wrap64 ((wrap64 ((ji5) * a0_2)) * 12)), (by first | rfl | (simp; done) | (simp only [← hji5] <;> (first | rfl | simp)) | (simp [*]; done)), H', ⟨eN⟩, ⟨(bk BK898)⟩, ⟨bB⟩⟩
    ·
     rw [if_neg c13] at H
     have c13b0 : (a0_3 == 4) = false := beq_eq_false_iff_ne.mpr c13
     have c13b1 : (a0_3 != 4) = true := bne_iff_ne.mpr c13
     have H' := Aside0.mk H;clear H
     go_wp2
     go_meet
     case rel => exact ⟨_, (wrap64 ((ji5) * a0_2)), (by first | rfl | (simp; done) | (simp only [← hji5] <;> (first | rfl | simp)) | (simp [*]; done)), H', ⟨eN⟩, ⟨(bk BK898)⟩, ⟨bB⟩⟩
 case rest =>
  clear HC6
  obtain ⟨kq, x2_5, rfl, HA, HJ5, BK898, HB⟩ := hcut
  cases kq with
  | zero => exact absurd HA.out (by simp [xbE.j0])
  | succ kj5 =>
   have H := HA.out;clear HA
   simp only [xbE.j0] at H
   replace H := Option.bind_eq_some_iff.mp H
   obtain ⟨⟨t901, t902⟩, A140, H⟩ := H
   replace H : (if t902 = 0 then ((xbR.f kj5 t901).bind fun bt903 => (if a0_5 = 1 then ((xdD.f bt903.1 bt903.2.1).bind fun bt907 => ((xdS.f kj5 bt903.1 bt903.2.1 bt907.1).bind fun bt909 => (some (bt909.1, true)))) else (if a0_5 = 2 then ((xdN.f kj5 bt903.1 bt903.2.1).bind fun bt911 => (some (bt911.1, true))) else (some (t901, true))))) else (some (0, false))) = some (r1, r2) := H
   have A14 := Aside0.mk A140;clear A140
   by_cases c15 : t902 = 0
   ·
    rw [if_pos c15] at H
    have c15b0 : (t902 == 0) = true := beq_iff_eq.mpr c15
    have c15b1 : (t902 != 0) = false := bne_eq_false_iff_eq.mpr c15
    clear c15;replace H := Option.bind_eq_some_iff.mp H
    obtain ⟨⟨t903, t904, t905, t906⟩, A160, H⟩ := H
    replace H : (if a0_5 = 1 then ((xdD.f t903 t904).bind fun bt907 => ((xdS.f kj5 t903 t904 bt907.1).bind fun bt909 => (some (bt909.1, true)))) else (if a0_5 = 2 then ((xdN.f kj5 t903 t904).bind fun bt911 => (some (bt911.1, true))) else (some (t901, true)))) = some (r1, r2) := H
    have A16 := Aside0.mk A160;clear A160
    by_cases c17 : a0_5 = 1
    ·
     rw [if_pos c17] at H
     have c17b0 : (a0_5 == 1) = true := beq_iff_eq.mpr c17
     have c17b1 : (a0_5 != 1) = false := bne_eq_false_iff_eq.mpr c17
     clear c17;replace H := Option.bind_eq_some_iff.mp H
     obtain ⟨⟨t907, t908⟩, A180, H⟩ := H
     replace H : ((xdS.f kj5 t903 t904 t907).bind fun bt909 => (some (bt909.1, true))) = some (r1, r2) := H
     have A18 := Aside0.mk A180;clear A180;replace H := Option.bind_eq_some_iff.mp H
     obtain ⟨⟨t909, t910⟩, A190, H⟩ := H
     replace H : (some (t909, true)) = some (r1, r2) := H
     have A19 := Aside0.mk A190;clear A190
     simp only [Option.some.injEq, Prod.mk.injEq] at H
     obtain ⟨rfl, rfl⟩ := H
     go_wp2_with (first | ((with_reducible refine gG 79 ?_); refine goA (some 44) Tryz.func79 #[.int .i64 a1, .int .i64 x2_5, .bool false] ?_; (with_reducible refine (xbF.calls kj5 a1 x2_5 false t901 t902 _ A14.out).mono ?_); rintro e w' ⟨rfl, ⟨nd, rfl⟩⟩; refine ⟨_, rfl, ?_⟩) | ((with_reducible refine gG 186 ?_); refine goA (some 51) Tryz.func186 #[.int .i64 t901] ?_; (with_reducible refine (xbR.calls kj5 t901 t903 t904 t905 t906 _ A16.out).mono ?_); rintro e w' ⟨rfl, ⟨nd, rfl⟩⟩; refine ⟨_, rfl, ?_⟩; obtain ⟨_,_,_,_,_,_,_,_,_,_,_,_,_,_,_,_,_,_,_,_⟩ := blk10 BK898) | ((with_reducible refine gG 187 ?_); refine goA (some 63) Tryz.func187 #[.int .i64 t903, .int .i64 t904] ?_; (with_reducible refine (xdD.calls t903 t904 t907 t908 _ A18.out).mono ?_); rintro e w' ⟨rfl, ⟨nd, rfl⟩⟩; refine ⟨_, rfl, ?_⟩) | ((with_reducible refine gG 188 ?_); refine goA (some 70) Tryz.func188 #[.int .i64 t903, .int .i64 t904, .int .i64 t907] ?_; (with_reducible refine (xdS.calls kj5 t903 t904 t907 t909 t910 _ A19.out).mono ?_); rintro e w' ⟨rfl, ⟨nd, rfl⟩⟩; refine ⟨_, rfl, ?_⟩))
     go_ret2
     exact ⟨by first | rfl | (simp [xbD, xbC] <;> rfl) | (simp only [← hji4, ← hji5]; first | rfl | (simp [xbD, xbC] <;> rfl)) | (simp [*, xbD, xbC] <;> rfl), bB⟩
    ·
     rw [if_neg c17] at H
     have c17b0 : (a0_5 == 1) = false := beq_eq_false_iff_ne.mpr c17
     have c17b1 : (a0_5 != 1) = true := bne_iff_ne.mpr c17
     by_cases c21 : a0_5 = 2
     ·
      rw [if_pos c21] at H
      have c21b0 : (a0_5 == 2) = true := beq_iff_eq.mpr c21
      have c21b1 : (a0_5 != 2) = false := bne_eq_false_iff_eq.mpr c21
      clear c21;replace H := Option.bind_eq_some_iff.mp H
      obtain ⟨⟨t911, t912⟩, A220, H⟩ := H
      replace H : (some (t911, true)) = some (r1, r2) := H
      have A22 := Aside0.mk A220;clear A220
      simp only [Option.some.injEq, Prod.mk.injEq] at H
      obtain ⟨rfl, rfl⟩ := H
      go_wp2_with (first | ((with_reducible refine gG 79 ?_); refine goA (some 44) Tryz.func79 #[.int .i64 a1, .int .i64 x2_5, .bool false] ?_; (with_reducible refine (xbF.calls kj5 a1 x2_5 false t901 t902 _ A14.out).mono ?_); rintro e w' ⟨rfl, ⟨nd, rfl⟩⟩; refine ⟨_, rfl, ?_⟩) | ((with_reducible refine gG 186 ?_); refine goA (some 51) Tryz.func186 #[.int .i64 t901] ?_; (with_reducible refine (xbR.calls kj5 t901 t903 t904 t905 t906 _ A16.out).mono ?_); rintro e w' ⟨rfl, ⟨nd, rfl⟩⟩; refine ⟨_, rfl, ?_⟩; obtain ⟨_,_,_,_,_,_,_,_,_,_,_,_,_,_,_,_,_,_,_,_⟩ := blk10 BK898) | ((with_reducible refine gG 189 ?_); refine goA (some 78) Tryz.func189 #[.int .i64 t903, .int .i64 t904] ?_; (with_reducible refine (xdN.calls kj5 t903 t904 t911 t912 _ A22.out).mono ?_); rintro e w' ⟨rfl, ⟨nd, rfl⟩⟩; refine ⟨_, rfl, ?_⟩))
      go_ret2
      exact ⟨by first | rfl | (simp [xbD, xbC] <;> rfl) | (simp only [← hji4, ← hji5]; first | rfl | (simp [xbD, xbC] <;> rfl)) | (simp [*, xbD, xbC] <;> rfl), bB⟩
     ·
      rw [if_neg c21] at H
      have c21b0 : (a0_5 == 2) = false := beq_eq_false_iff_ne.mpr c21
      have c21b1 : (a0_5 != 2) = true := bne_iff_ne.mpr c21
      simp only [Option.some.injEq, Prod.mk.injEq] at H
      obtain ⟨rfl, rfl⟩ := H
      go_wp2_with (first | ((with_reducible refine gG 79 ?_); refine goA (some 44) Tryz.func79 #[.int .i64 a1, .int .i64 x2_5, .bool false] ?_; (with_reducible refine (xbF.calls kj5 a1 x2_5 false t901 t902 _ A14.out).mono ?_); rintro e w' ⟨rfl, ⟨nd, rfl⟩⟩; refine ⟨_, rfl, ?_⟩) | ((with_reducible refine gG 186 ?_); refine goA (some 51) Tryz.func186 #[.int .i64 t901] ?_; (with_reducible refine (xbR.calls kj5 t901 t903 t904 t905 t906 _ A16.out).mono ?_); rintro e w' ⟨rfl, ⟨nd, rfl⟩⟩; refine ⟨_, rfl, ?_⟩; obtain ⟨_,_,_,_,_,_,_,_,_,_,_,_,_,_,_,_,_,_,_,_⟩ := blk10 BK898))
      go_ret2
      exact ⟨by first | rfl | (simp [xbD, xbC] <;> rfl) | (simp only [← hji4, ← hji5]; first | rfl | (simp [xbD, xbC] <;> rfl)) | (simp [*, xbD, xbC] <;> rfl), bB⟩
   ·
    rw [if_neg c15] at H
    have c15b0 : (t902 == 0) = false := beq_eq_false_iff_ne.mpr c15
    have c15b1 : (t902 != 0) = true := bne_iff_ne.mpr c15
    simp only [Option.some.injEq, Prod.mk.injEq] at H
    obtain ⟨rfl, rfl⟩ := H
    go_wp2_with (first | ((with_reducible refine gG 79 ?_); refine goA (some 44) Tryz.func79 #[.int .i64 a1, .int .i64 x2_5, .bool false] ?_; (with_reducible refine (xbF.calls kj5 a1 x2_5 false t901 t902 _ A14.out).mono ?_); rintro e w' ⟨rfl, ⟨nd, rfl⟩⟩; refine ⟨_, rfl, ?_⟩))
    go_ret2
    exact ⟨by first | rfl | (simp [xbD, xbC] <;> rfl) | (simp only [← hji4, ← hji5]; first | rfl | (simp [xbD, xbC] <;> rfl)) | (simp [*, xbD, xbC] <;> rfl), bB⟩
end Go.Proofs.YtkabcgmegljebaaGreatDoor.Q
